/- Part of the proofs: an abstract program logic, plain models and contracts of functions. -/
import Derived.Shelf.SlIterI.Nil
import Derived.Shelf.SortM.Plain
import Derived.Shelf.SortM.SortNone
import Derived.Ground.GgzProg
import Derived.Ground.SlgmProg
import Derived.Test.YtldfmjoncbjldaaGreatProg
import Derived.Test.YtldfmjoncbjldaaGreatPg
import Derived.Test.YtldfmjoncbjldaaGreatPb
import Derived.Test.YtldfmjoncbjldaaGreatPh
import Derived.Test.YtldfmjoncbjldaaGreatPd
import Derived.Test.YtldfmjoncbjldaaGreatPe
import Derived.Test.YtldfmjoncbjldaaGreatPf
import Derived.Test.YtldfmjoncbjldaaGreatPc
set_option linter.unusedVariables false
set_option linter.unusedSimpArgs false
set_option maxRecDepth 100000
namespace Go.Proofs
open Go.Shelf
def Tryz.keysA_ren:Go.Shelf.Ren:=⟨fun | 7=>196 | 10=>207 | n=>n,fun | 23=>253 | 26=>3 | 3=>3 | 28=>270 | 0=>0 | 27=>269 | 33=>278 | 4=>4 | n=>n,fun | n=>n⟩
theorem Tryz.keysA:Go.Proofs.SlLaysZI.n7 Tryz.prog Tryz.keysA_ren:={
 mixed:=by kernel_rfl
 f7:=⟨Tryz.f196.name,by decide,Tryz.func196.trans (congrArg some Ap)⟩
 f10:=⟨Tryz.f207.name,by decide,Tryz.func207.trans (congrArg some Ap)⟩
 t0:=Tryz.underlying0
 a0:=Tryz.isAgg0
 z0:=Tryz.sizeOf0
 v0:=Tryz.zeroValue0
 t4:=Tryz.underlying4
 a4:=Tryz.isAgg4
 z4:=Tryz.sizeOf4
 v4:=Tryz.zeroValue4
 t23:=Tryz.underlying253
 a23:=Tryz.isAgg253
 z23:=Tryz.sizeOf253
 v23:=Tryz.zeroValue253
 t26:=Tryz.underlying3
 a26:=Tryz.isAgg3
 z26:=Tryz.sizeOf3
 v26:=Tryz.zeroValue3
 t27:=Tryz.underlying269
 a27:=Tryz.isAgg269
 z27:=Tryz.sizeOf269
 v27:=Tryz.zeroValue269
 t28:=Tryz.underlying270
 a28:=Tryz.isAgg270
 z28:=Tryz.sizeOf270
 v28:=Tryz.zeroValue270
 t33:=Tryz.underlying278
 a33:=Tryz.isAgg278
 z33:=Tryz.sizeOf278
 v33:=Tryz.zeroValue278 }
def Tryz.sortedA_ren:Go.Shelf.Ren:=⟨fun | 6=>195 | 8=>205 | 9=>206 | 11=>212 | 13=>214 | 12=>213 | 23=>224 | 24=>225 | 14=>215 | 15=>216 | 16=>217 | 17=>218 | 18=>219 | 19=>220 | 20=>221 | 21=>222 | 22=>223 | 25=>226 | 26=>227 | 27=>228 | 28=>229 | 29=>230 | 30=>231 | 31=>232 | n=>n,fun | 26=>3 | 28=>270 | 24=>150 | 0=>0 | 3=>3 | 37=>286 | 48=>296 | 50=>298 | 4=>4 | 40=>289 | 39=>288 | 45=>267 | 5=>5 | 9=>9 | 51=>299 | 55=>303 | 57=>305 | 58=>85 | 33=>278 | n=>n,fun | n=>n⟩
theorem Tryz.sortedA:Go.Proofs.SlLaysZI.n6 Tryz.prog Tryz.sortedA_ren:={
 mixed:=by kernel_rfl
 f6:=⟨Tryz.f195.name,by decide,Tryz.func195.trans (congrArg some Ap)⟩
 f8:=⟨Tryz.f205.name,by decide,Tryz.func205.trans (congrArg some Ap)⟩
 f11:=⟨Tryz.f212.name,by decide,Tryz.func212.trans (congrArg some Ap)⟩
 t0:=Tryz.underlying0
 a0:=Tryz.isAgg0
 z0:=Tryz.sizeOf0
 v0:=Tryz.zeroValue0
 t24:=Tryz.underlying150
 a24:=Tryz.isAgg150
 z24:=Tryz.sizeOf150
 v24:=Tryz.zeroValue150
 t26:=Tryz.underlying3
 a26:=Tryz.isAgg3
 z26:=Tryz.sizeOf3
 v26:=Tryz.zeroValue3
 t28:=Tryz.underlying270
 a28:=Tryz.isAgg270
 z28:=Tryz.sizeOf270
 v28:=Tryz.zeroValue270
 i26:=by kernel_rfl }
def Tryz.sortA_ren:Go.Shelf.Ren:=⟨fun | 5=>206 | 8=>214 | 7=>213 | 19=>224 | 20=>225 | 10=>215 | 11=>216 | 12=>217 | 13=>218 | 14=>219 | 15=>220 | 16=>221 | 17=>222 | 18=>223 | 30=>226 | 31=>227 | 32=>228 | 33=>229 | 34=>230 | 35=>231 | 40=>232 | n=>n,fun | 23=>150 | 25=>3 | 3=>3 | 32=>286 | 22=>150 | 0=>0 | 44=>296 | 46=>298 | 4=>4 | 36=>289 | 35=>288 | 41=>267 | 5=>5 | 9=>9 | 53=>299 | 57=>303 | 63=>305 | 64=>85 | n=>n,fun | n=>n⟩
theorem Tryz.sortA:Go.Proofs.SlLaysM.n5 Tryz.prog Tryz.sortA_ren:={
 mixed:=by kernel_rfl
 f5:=⟨Tryz.f206.name,by decide,Tryz.func206.trans (congrArg some Ap)⟩
 f7:=⟨Tryz.f213.name,by decide,Tryz.func213.trans (congrArg some Ap)⟩
 f8:=Tryz.func214.trans (congrArg some Ap)
 f10:=⟨Tryz.f215.name,by decide,Tryz.func215.trans (congrArg some Ap)⟩
 f11:=⟨Tryz.f216.name,by decide,Tryz.func216.trans (congrArg some Ap)⟩
 f12:=⟨Tryz.f217.name,by decide,Tryz.func217.trans (congrArg some Ap)⟩
 f13:=⟨Tryz.f218.name,by decide,Tryz.func218.trans (congrArg some Ap)⟩
 f14:=⟨Tryz.f219.name,by decide,Tryz.func219.trans (congrArg some Ap)⟩
 f15:=⟨Tryz.f220.name,by decide,Tryz.func220.trans (congrArg some Ap)⟩
 f16:=⟨Tryz.f221.name,by decide,Tryz.func221.trans (congrArg some Ap)⟩
 f17:=⟨Tryz.f222.name,by decide,Tryz.func222.trans (congrArg some Ap)⟩
 f18:=⟨Tryz.f223.name,by decide,Tryz.func223.trans (congrArg some Ap)⟩
 f19:=Tryz.func224.trans (congrArg some Ap)
 f20:=Tryz.func225.trans (congrArg some Ap)
 f30:=⟨Tryz.f226.name,by decide,Tryz.func226.trans (congrArg some Ap)⟩
 f31:=Tryz.func227.trans (congrArg some Ap)
 f32:=Tryz.func228.trans (congrArg some Ap)
 f33:=⟨Tryz.f229.name,by decide,Tryz.func229.trans (congrArg some Ap)⟩
 f34:=⟨Tryz.f230.name,by decide,Tryz.func230.trans (congrArg some Ap)⟩
 f35:=⟨Tryz.f231.name,by decide,Tryz.func231.trans (congrArg some Ap)⟩
 f40:=⟨Tryz.f232.name,by decide,Tryz.func232.trans (congrArg some Ap)⟩
 t0:=Tryz.underlying0
 a0:=Tryz.isAgg0
 z0:=Tryz.sizeOf0
 v0:=Tryz.zeroValue0
 t3:=Tryz.underlying3
 a3:=Tryz.isAgg3
 z3:=Tryz.sizeOf3
 v3:=Tryz.zeroValue3
 t4:=Tryz.underlying4
 a4:=Tryz.isAgg4
 z4:=Tryz.sizeOf4
 v4:=Tryz.zeroValue4
 t5:=Tryz.underlying5
 a5:=Tryz.isAgg5
 z5:=Tryz.sizeOf5
 v5:=Tryz.zeroValue5
 t9:=Tryz.underlying9
 a9:=Tryz.isAgg9
 z9:=Tryz.sizeOf9
 v9:=Tryz.zeroValue9
 t22:=Tryz.underlying150
 a22:=Tryz.isAgg150
 z22:=Tryz.sizeOf150
 v22:=Tryz.zeroValue150
 t23:=Tryz.underlying150
 a23:=Tryz.isAgg150
 z23:=Tryz.sizeOf150
 v23:=Tryz.zeroValue150
 t25:=Tryz.underlying3
 a25:=Tryz.isAgg3
 z25:=Tryz.sizeOf3
 v25:=Tryz.zeroValue3
 t32:=Tryz.underlying286
 a32:=Tryz.isAgg286
 z32:=Tryz.sizeOf286
 v32:=Tryz.zeroValue286
 t35:=Tryz.underlying288
 a35:=Tryz.isAgg288
 z35:=Tryz.sizeOf288
 v35:=Tryz.zeroValue288
 t36:=Tryz.underlying289
 a36:=Tryz.isAgg289
 z36:=Tryz.sizeOf289
 v36:=Tryz.zeroValue289
 t41:=Tryz.underlying267
 a41:=Tryz.isAgg267
 z41:=Tryz.sizeOf267
 v41:=Tryz.zeroValue267
 t44:=Tryz.underlying296
 a44:=Tryz.isAgg296
 z44:=Tryz.sizeOf296
 v44:=Tryz.zeroValue296
 t46:=Tryz.underlying298
 a46:=Tryz.isAgg298
 z46:=Tryz.sizeOf298
 v46:=Tryz.zeroValue298
 t53:=Tryz.underlying299
 a53:=Tryz.isAgg299
 z53:=Tryz.sizeOf299
 v53:=Tryz.zeroValue299
 t57:=Tryz.underlying303
 a57:=Tryz.isAgg303
 z57:=Tryz.sizeOf303
 v57:=Tryz.zeroValue303
 t63:=Tryz.underlying305
 a63:=Tryz.isAgg305
 z63:=Tryz.sizeOf305
 v63:=Tryz.zeroValue305
 t64:=Tryz.underlying85
 a64:=Tryz.isAgg85
 z64:=Tryz.sizeOf85
 v64:=Tryz.zeroValue85 }
end Go.Proofs
namespace Go.Proofs
open Go.RowKit Go.Maps Go.Sort Go.Shelf
theorem Tryz.sortsA (m:Nat):AnyZI.SortsIn Tryz.prog Tryz.sortedA_ren Fence.wide m :=
 ⟨fun blk off cap ss W hH hblk hsz=>callsIn_wide.2 (AnyM.slices_Sort_int Tryz.sortA blk off cap ss W hH hblk hsz),
  fun p cap W=>callsIn_wide.2 (AnyM.slices_Sort_int_none Tryz.sortA p cap W)⟩
set_option maxHeartbeats 1000000 in
theorem Tryz.sortedKeys {H:Type}(Bm b nn:Nat) (D0:DataW H) (R:Value→Option (DataW H×List MemPlace)) (w:World) (hBm:Bm<w.heap.size) (hcell:w.cell? ⟨Bm,0,none⟩=some (.map (some b))) (hown:w.ownsMap Tryz.prog 3 R b nn D0) (hmax:Maps.size D0≤maxLen) (hbytes:Maps.size D0*8≤140737488355328) :
  Calls Tryz.prog 195 #[.func (.func 207) #[] #[.pointer (some ⟨Bm,0,none⟩)]] w fun e w'=>∃(v:Value) (ss:List Int),e= .returned v∧ss.Perm (intKeys D0) ∧
   w'.ownsRow w.heap.size 3 1 v ss.length ((ss.mergeSort (fun x y=>decide (x≤y))).map encZ)∧(v= .slice none 0 0↔ss=[])∧Below w.heap.size w w':=by
 refine(callsIn_wide (n:=5)).1 ?_;have hseq:SeqGives Fence.wide 2 Tryz.prog 207 #[.pointer (some ⟨Bm,0,none⟩)] encZ (fun ss=>ss.Perm (intKeys D0)) (Maps.size D0) w :=
  AnyZI.keys_gives (ρ:=Tryz.keysA_ren) { Tryz.keysA with } Fence.wide _ trivial rfl Au Bm b nn D0 w hBm hcell hown
 exact AnyZI.sorted_in Tryz.sortedA Fence.wide 5 Aw Aw Aw Aw O Au (Tryz.sortsA _) (enters_of Tryz.func206 Ap O) 207 #[.pointer (some ⟨Bm,0,none⟩)] Aw (enters_of Tryz.func207 Ap O) _ _ hmax hbytes _ hseq
end Go.Proofs
namespace Go.Proofs.YtldfmjoncbjldaaGreat
open Go.Abs Go.Eu
theorem ot:∀(m:Nat),BL Tryz.prog 196 [.map m] [] (W2 (fun b=> .fn (.func 207) [] [.ptr b 0]) [.map m]):=by
 intro m;refine DI Tryz.func196 (CG [0] O O fun b1=>A9 [3] O (Bg [] [0] O O ⟨_,O,O⟩))
theorem iD:∀(b m:Nat) (M:List (Int×Int)),M.length<1000000→(∀k∈M.map Prod.fst,-65536≤k∧k<8)→BL Tryz.prog 195 [.fn (.func 207) [] [.ptr b 0]] [.box b [.map m],.map m (Ek (Hy M))] (Gm (.p (.lst ((Gz (M.map Prod.fst)).map Fz))) [.box b [.map m],.map m (Ek (Hy M))]):=fun b m M h1 h2=>Rp (kT:=3) (eT:=3) Ap Ap (fun Bm b nn D0 R w g1 g2 g3 g4 g5=>Tryz.sortedKeys Bm b nn D0 R w g1 g2 g3 g4 g5) b m M h1 h2
theorem gr : ∀ (s m : Nat) (M : List (Int × Int)) (C : Int), (dA (M, C)) → BL Tryz.prog 181 [.ptr s 0] [.box s [.map m, .p (I C)], .map m (Ek (Hy M))] (Gm (.tup [.agg ((B4 ((L1 ⟨C, IX M⟩).1)).map .p), .p (I ((L1 ⟨C, IX M⟩).2))]) [.box s [.map m, .p (I C)], .map m (Ek (Hy M))]) := by
 intro s m M C h1
 have hkl : (Gz (M.map Prod.fst)).length = M.length := by simp [Vs]
 have hml : M.length ≤ 65544 := h1.len
 refine DI Tryz.func181 ?_
 refine Bp [0] O (Az FC O) fun b2 => ?_
 refine Bp [6, 1] O (Az FC O) fun b4 => ?_
 refine DS [1, 0, 0] O ?_
 refine BH (EV (i := 0) O (Ux (aw (we O) (aw (Iv) (HT))))) ?_
 refine BH (H6 (sz := 2)) ?_
 refine BW (DS [4, 3] O ?_)
 refine PY O O O (.inl ⟨O, O, O⟩) (ot m) (Dt _) fun bk => ?_
 refine BW (A2 [0] O (Bj [0, 5] O (.inl ⟨O, O, O⟩) (iD bk m M Au h1.r) ⟨_, _, O, O, ⟨_, _, O, O, O⟩⟩ As O (.inl O)) ?_)
 refine CA [0] O O (List.length_map _) ?_
 refine GG (α := Nat × Option Nat × Nat) [1] [0, 2, 4, 17, 18] [1, 2, 3, 4, 5] (fun (i, o, cp) => [(19, .p (I (i : Int)))]) (fun (i, o, cp) => [(0, .vec o 2 (List.map Ey (((Gz (M.map Prod.fst)).take i).map (VA M))) cp), (1, .box b4 [.p (I C), .vs o (List.map Ey (((Gz (M.map Prod.fst)).take i).map (VA M))).length cp])]) (fun (i, o, cp) => (Gz (M.map Prod.fst)).length - i) (fun (i, o, cp) => i ≤ (Gz (M.map Prod.fst)).length) ⟨0, none, 0⟩ O O O AY ?_
 rintro ⟨i, o, cp⟩ hC
 try simp only at hC
 have hi := hC
 refine BC [1] rfl ?_ ?_ <;> intro c
 ·refine D7 [0] (Gz (M.map Prod.fst)) i O O O (H5 (f := Fz) fun _ => O) (fun x hx => ?_)
  refine E2 [2] [11] O ?_
  refine Bb [8, 1, 3] O ?_
  refine CF (j := 4) O O O (fun H i hi => YK (i := i) mb mT (fun _ _ => by simp [Bz, Br]) rfl rfl hi (Y4 _ _)) AB trivial ?_
  refine A3 O (fun _ => EW vc HH O) Aw ?_
  refine A3 O (fun _ => BJ DC HH O O O O O) Aw ?_
  refine JS [] O O (Bi (i := 0) (rows' := List.map Ey [(B6.mk x ((mg x M).getD 0))]) DC DC HH O O O O O O (G6 _) AF (Fx (f := Ey) (((Gz (M.map Prod.fst)).take i).map (VA M)) [(B6.mk x ((mg x M).getD 0))])) Ap fun o1 cp1 => ⟨AB, Aw, ?_⟩
  refine CY tab 2 [1, 0] O ?_
  exact Cu (FR [2] 0 ⟨i + 1, o1, cp1⟩ O Au (e2 := wl (Eo (f := Ey) (((Gz (M.map Prod.fst)).take i).map (VA M) ++ [(B6.mk x ((mg x M).getD 0))]) (by rw [List.take_add_one, hx]; simp [VA])) (wl (Ux (aw (we O) (aw (we (FQ (f := Ey) (((Gz (M.map Prod.fst)).take i).map (VA M) ++ [(B6.mk x ((mg x M).getD 0))]) (by rw [List.take_add_one, hx]; simp [VA]))) (HT)))) (wl (oe O) (wl (oe O) (wl (oe O) (Ih)))))))
 refine DF [0] O ?_
 refine DS [0] O ?_
 refine BH (Cf (i := 0) (j := 1) (q := 1) [] O O O (DA Aw)) ?_
 refine BW (CQ [1, 0] O (aU (CX.mk C (((Gz (M.map Prod.fst)).take i).map (VA M))) (by simp only [List.length_map, List.length_take, Db]; omega)) ?_)
 refine A9 [4, 1, 1] O (Bg [1] [2, 3] O O ⟨by rw [show ((Gz (M.map Prod.fst)).take i).map (VA M) = IX M from bu Au]; try rfl, rfl⟩)
theorem iT:∀(l:CX) (ps:List CX),(OA l)→(ps.length<Db)→(∀p∈ps,OA p)→En Tryz.prog 147 [.agg ((B4 l).map .p),.p (.lst (List.map B4 ps))] (.tup [.agg ((B4 ((Kr l ps).1)).map .p),.p (I ((Kr l ps).2))]):=by
 intro l ps h1 h2 h3;have hl:=h1.vars;have hl2:=h2;simp only[Db] at hl hl2;refine DI Tryz.func147 (CG [0] O O fun b2=>Bp [0] O (Az FC O) fun b4=>CI [1] 1 [1,2,4] 16 ((!(B0 l))||(!(ps.all B0))) O O ?_ ?_)
 ·refine CQ [1,1] O (TL l h1) ?_;refine Bc [2] 12 rfl rfl ?_ ?_<;>intro g
  ·exact CT [4] O
  exact CQ [1] O (Ya ps h2 h3) (CT [2] O)
 refine BC [0] rfl ?_ ?_<;>intro c
 ·refine CK [3,0,0] O (A5 (BE (i:=0) O) ?_);refine BP (A9 [0] O (Bg [0] [] O O ⟨by rw[show Kr l ps=(GB,3) by rw[Kr,if_pos (by simpa using c)]];rfl,rfl⟩))
 have hv:B0 l=true∧ps.all B0=true:=by simpa using c
 refine CQ [1,1] O (iU l h1) (CA [1] O O (List.length_map _) ?_);refine BC [1] rfl ?_ ?_<;>intro c1
 ·refine CK [3,0,0] O (A5 (BE (i:=0) O) ?_);refine BP (A9 [0] O (Bg [0] [] O O ⟨by rw[show Kr l ps=(GB,24) by rw[Kr,if_neg (by simp[hv]),if_pos c1]];rfl,rfl⟩))
 have hpl:¬(HV l > ps.length):=by omega
 refine DS [0] O (dv O O O (.inl ⟨O,O,O⟩) kp (Dt _) fun bs=>?_);obtain⟨bs,mm⟩:=bs;refine BW (CA [9,3,0,0,3] O O (List.length_map _) ?_);refine GG (α:=Nat) [1] [1,4,6,31,32] [0,1,2] (fun i=>[(33,.p (I (i:Int)))]) (fun i=>[(0,.box bs [.map mm,.p (I (((l.vars.take i).foldl (Es ps) ([],l.const)).2))]),(1,.map mm (Ek (Hy ((l.vars.take i).foldl (Es ps) ([],l.const)).1)))]) (fun i=>l.vars.length - i) (fun i=>i≤l.vars.length) 0 O O O AY ?_;rintro i hC
 try simp only at hC
 have hi:=hC;refine BC [1] rfl ?_ ?_<;>intro c2
 ·obtain⟨x,hx⟩:=A1 (l:=l.vars) (i:=i) Au;have hw:=L8 hv.1 hx;have hpi:=nD hv.1 hpl hx;refine A2 [0] O (A0 DC O O Au (DT hx) (O)) (Bp [1] O (Az HH O) fun b8=>?_);refine BC [4,0,1,0] rfl ?_ ?_<;>intro c3
  ·exact E2 [0] [] O (Bb [8,1,0,0] O (FB O O (Bj [2] O (.inl ⟨O,O,O⟩) (ZO mm (((l.vars.take i).foldl (Es ps) ([],l.const)).1) x.index x.plus) ⟨_,_,O,O,O⟩ As O (.inl O)) AB Aw (HC O Ap (Cu (FR [2] 1 (i+1) O Au (e2:=wl (ob (by first | (simp only[step_take hx,Xn c3];done) | (simp only[step_take hx,Wv c3 hx1];done))) (wl (om (by first | (simp only[step_take hx,Xn c3];done) | (simp only[step_take hx,Wv c3 hx1];done))) (wl (oe O) (Ih)))))))))
  refine E2 [0] [] O (Bb [4,0] O ?_);obtain⟨x1,hx1⟩:=A1 (l:=ps) (i:=(x.index:Int).toNat) Au;exact A3 O (fun _=>A0 KX O O Au (Pa hx1) (E3 _)) Aw (Bb [3,0] O (FB O O (Bj [1,2] O (.inl ⟨O,O,O⟩) (qG bs mm (((l.vars.take i).foldl (Es ps) ([],l.const)).1) (((l.vars.take i).foldl (Es ps) ([],l.const)).2) x1 x.plus (Jx.of (List.all_eq_true.1 hv.2 _ (List.mem_of_getElem? hx1))) hw.1.1 hw.1.2) ⟨_,_,O,O,⟨_,_,O,O,O⟩⟩ As O (.inl O)) AB Aw (HC O Ap (Cu (FR [2] 1 (i+1) O Au (e2:=wl (ob (by first | (simp only[step_take hx,Xn c3];done) | (simp only[step_take hx,Wv c3 hx1];done))) (wl (om (by first | (simp only[step_take hx,Xn c3];done) | (simp only[step_take hx,Wv c3 hx1];done))) (wl (oe O) (Ih)))))))))
 refine DF [0] O ?_;have hfin:dA ((l.vars.take i).foldl (Es ps) ([],l.const)):=dA.fold (List.all_eq_true.1 hv.2) _ _ (dA.zero _) (fun x hx=>by
  obtain⟨j,hj⟩:=List.mem_iff_getElem?.1 (List.mem_of_mem_take hx);exact⟨L8 hv.1 hj,nD hv.1 hpl hj⟩)
 refine A2 [1] O (Bj [0,1] O (.inl ⟨O,O,O⟩) (gr bs mm (((l.vars.take i).foldl (Es ps) ([],l.const)).1) (((l.vars.take i).foldl (Es ps) ([],l.const)).2) hfin) ⟨_,_,O,O,⟨_,_,O,O,O⟩⟩ As O (.inl O)) ?_;refine A9 [4,2,1] O (Bg [2] [] O O ⟨by rw[show Kr l ps=L1 ⟨(l.vars.foldl (Es ps) ([],l.const)).2,IX (l.vars.foldl (Es ps) ([],l.const)).1⟩ by rw[Kr,if_neg (by simp[hv]),if_neg hpl]];rw[show l.vars.take i=l.vars from List.take_of_length_le Au];try rfl,rfl⟩)
theorem l4 : ∀ (t : Tm), (Nd t) → BL Tryz.prog 95 [.agg ((BD t).map .p)] [] (pq (fun p : Option Nat × Nat => .agg [.p (I t.kind), .p (I t.index), .p (.str t.name), .vs p.1 (List.map B4 t.levels).length p.2, .p (.lst [])]) (fun p => [.vec p.1 2 (List.map B4 t.levels) p.2])) := by
 intro t h1
 obtain ⟨tk, ti, tn, tl, ts⟩ := t
 simp only [Nd, Db] at h1
 refine DI Tryz.func95 ?_
 refine CG [0] O O fun b1 => ?_
 refine Bp [0] O (Az Ba O) fun b2 => ?_
 refine Bp [7, 1, 1, 1] O (Az Ba O) fun b3 => ?_
 refine DS [1, 0, 0] O ?_
 refine BH (EV (i := 0) O (Ux (aw (we O) (aw (we O) (aw (we O) (aw (Iv) (aw (we O) (HT)))))))) ?_
 refine BH (H6 (sz := 2)) ?_
 refine BW (CA [2, 3] O O (List.length_map _) ?_)
 refine GG (α := Nat × Option Nat × Nat) [1] [2, 3, 14, 15] [0, 1, 2] (fun (i, o, cp) => [(16, .p (I (i : Int)))]) (fun (i, o, cp) => [(0, .vec o 2 (List.map B4 (tl.take i)) cp), (1, .box b3 [.p (I tk), .p (I ti), .p (.str tn), .vs o (List.map B4 (tl.take i)).length cp, .p (.nils)])]) (fun (i, o, cp) => tl.length - i) (fun (i, o, cp) => i ≤ tl.length) ⟨0, none, 0⟩ O O O AY ?_
 rintro ⟨i, o, cp⟩ hC
 try simp only at hC
 have hi := hC
 refine BC [1] rfl ?_ ?_ <;> intro c
 ·refine D7 [0] tl i O O O (H5 E3) (fun x hx => ?_)
  refine Bp [1] O (Az FC O) fun b5 => ?_
  refine E2 [1, 0, 0] [9] O ?_
  refine Bb [6, 2, 0, 0] O ?_
  refine A3 O (fun _ => Mo (rows' := List.map Ey x.vars) DC DC HH O O (fun _ _ _ h => Xp h) O (G6 _) (by have := h1.2.2.1 x (List.mem_of_getElem? hx); have := this.1; simp only [Db] at this; simp only [List.length_map]; omega)) Aw ?_
  refine A3 O (fun _ => EW ry FC O) Aw ?_
  refine A3 O (fun _ => BJ KX FC O O O O O) Aw ?_
  refine JS [] O O (Bi (i := 1) (rows' := List.map B4 [(CX.mk x.const x.vars)]) KX KX FC O O O O O O (Nl _) AM (Fx (f := B4) (tl.take i) [(CX.mk x.const x.vars)])) Ap fun o1 cp1 => ⟨AB, Aw, ?_⟩
  refine CY tab 2 [2, 0] O ?_
  exact Cu (FR [2] 1 ⟨i + 1, o1, cp1⟩ O Au (e2 := wl (Eo (f := B4) (tl.take i ++ [(CX.mk x.const x.vars)]) (by rw [List.take_add_one, hx]; rfl)) (wl (Ux (aw (we O) (aw (we O) (aw (we O) (aw (we (FQ (f := B4) (tl.take i ++ [(CX.mk x.const x.vars)]) (by rw [List.take_add_one, hx]; rfl))) (aw (we O) (HT))))))) (wl (oe O) (Ih)))))
 refine DF [0] O ?_
 refine CK [2, 1, 2, 0] O ?_
 refine A5 (BE (i := 2) O) ?_
 refine BP (A9 [0] O (Bg [2] [0] O O ?_))
 have htk : tl.take i = tl := List.take_of_length_le Au
 exact ⟨(o, cp), by rw [htk]; simp [Tm.kind, Tm.index, Tm.name, Tm.levels, splice, dn], by rw [htk]; rfl⟩
theorem jK:∀(tk ti:Int) (tn:ByteArray) (tl:List CX) (ts:List Tm),Nd (.mk tk ti tn tl ts)→BL Tryz.prog 95 [TV (.mk tk ti tn tl ts)] [] (pq (fun p:Option Nat×Nat=> .agg [.p (I tk),.p (I ti),.p (.str tn),.vs p.1 (List.map B4 tl).length p.2,.p (.lst [])]) (fun p=>[.vec p.1 2 (List.map B4 tl) p.2])):=fun tk ti tn tl ts h=>l4 _ h
theorem tN : ∀ (l : CX) (ps : List CX), (OA l) → (ps.length < Db) → (∀ p ∈ ps, OA p) → En Tryz.prog 146 [.agg ((B4 l).map .p), .ref [.lst (List.map B4 ps)]] (.tup [.agg ((B4 ((C4 l ps).1)).map .p), .p (I ((C4 l ps).2))]) := by
 intro l ps h1 h2 h3
 refine DI Tryz.func146 ?_
 refine CG [0] O O fun b2 => ?_
 refine Bp [0] O (Az FC O) fun b3 => ?_
 refine CQ [3, 1] O (iT l ps h1 h2 h3) ?_
 refine A9 [4, 0, 1] O (Bg [0] [] O O ⟨by rw [iO]; try rfl, rfl⟩)
theorem sR : ∀ (bR : Nat) (ps : List CX) (s : Unit) (t : Tm) (d : Int), (Nd t) → (ps.length < Db) → (∀ p ∈ ps, OA p) → BL Tryz.prog 174 [.agg ((BD t).map .p), .p (I d), .ptr bR 0] [.box bR [.fn (.func 146) [] [.ref [.lst (List.map B4 ps)]]]] (OP (fun (r : (Tm × Bool) × Unit) => .tup [TV r.1.1, .p (.bool r.1.2)]) (fun e => .p (.iface 207 (I e))) (fun r H' => H' = [.box bR [.fn (.func 146) [] [.ref [.lst (List.map B4 ps)]]]]) (X1 ps s t d)) := by
 intro bR ps s t d h1 h2 h3
 obtain ⟨tk, ti, tn, tl, ts⟩ := t
 have hn := h1
 simp only [Nd, Db] at hn
 refine DI Tryz.func174 ?_
 refine CG [0] O O fun b3 => ?_
 refine Bp [0] O (Az Ba O) fun b5 => ?_
 refine DS [2, 1] O ?_
 refine dv O O O (.inl ⟨O, O, O⟩) (jK tk ti tn tl ts h1) (Dt _) fun vv => ?_
 obtain ⟨ov, cv⟩ := vv
 refine BW (Bp [0] O (Az Ba O) fun b7 => ?_)
 refine CA [3, 0, 0, 3] O O (List.length_map _) ?_
 refine GG (α := Nat × List CX × Option Nat × Nat) [1] [2, 5, 7, 15, 16] [0, 1, 2, 4] (fun (i, ys, o, cp) => [(17, .p (I (i : Int)))]) (fun (i, ys, o, cp) => [(0, .box b7 [.p (I tk), .p (I ti), .p (.str tn), .vs o (List.map B4 (ys ++ tl.drop i)).length cp, .p (.lst (A6 []))]), (1, .vec o 2 (List.map B4 (ys ++ tl.drop i)) cp)]) (fun (i, ys, o, cp) => tl.length - i) (fun (i, ys, o, cp) => i ≤ tl.length ∧ (ys.length = i ∧ Jc ps tl = Pe ys (Jc ps (tl.drop i)))) ⟨0, [], ov, cv⟩ O O O (⟨by omega, rfl, iZ _⟩) ?_
 rintro ⟨i, ys, o, cp⟩ hC
 try simp only at hC
 obtain ⟨hi, hl, hC⟩ := hC
 refine BC [1] rfl ?_ ?_ <;> intro c
 ·refine D7 [1] tl i O O O (H5 E3) (fun x hx => ?_)
  refine Bp [1] O (Az FC O) fun b9 => ?_
  refine A2 [4, 0, 1, 4, 0] O (pE O O (tN x ps (hn.2.2.1 _ (List.mem_of_getElem? hx)) h2 h3) (.inl O)) ?_
  refine Bp [3] O (Az FC O) fun b10 => ?_
  refine BC [4, 0, 1] rfl ?_ ?_ <;> intro c1
  ·refine DS [1] O ?_
   refine Pz O O O (.inl ⟨O, O, O⟩) (Rt ((C4 x ps).2)) (aw (we O) (HT)) ?_
   exact ⟨O, _, List.nil_sublist _, ⟨_, p5 (hC.trans (uO hx Au)), O⟩⟩
  refine DS [4, 2, 0] O ?_
  refine I4 (i := 3) O Aj fun b hb => ?_
  subst hb
  refine BW (A2 [0] O (CJ KX O O Au (by first | omega | (simp; omega))) ?_)
  refine A2 [0] O (C7 (i := 3) (j := i) re O O O (by first | omega | (simp; omega)) O (iE _) (E3 _) (qt _) (lG (f := B4) (ys ++ tl.drop i) i ((C4 x ps).1))) ?_
  exact FR [2] 2 ⟨i + 1, ys ++ [(C4 x ps).1], (some b), cp⟩ O (⟨by omega, ⟨by simp [hl], hC.trans (s7 hx Au)⟩⟩) (e2 := wl (Ux (aw (we rfl) (aw (we rfl) (aw (we rfl) (aw (we (Vo (f := B4) (ys ++ tl.drop i) Ao)) (aw (we rfl) (HT))))))) (wl (Eo (f := B4) ((ys ++ tl.drop i).set i ((C4 x ps).1)) (by rw [set_drop hl hx])) (wl (oe rfl) (wl (oe rfl) (Ih)))))
 refine DF [0] O ?_
 refine DS [0] O ?_
 refine BH (Cf (i := 1) (j := 0) (q := 3) [] O O O (DA Aw)) ?_
 refine BW (A9 [3, 0, 1, 0] O (Bg [1] [2] O O ?_))
 rw [List.drop_eq_nil_of_le Au, List.append_nil]
 exact ⟨⟨⟨.mk tk ti tn ys [], false⟩, ()⟩, s5 (uG hC Au), O, O⟩
theorem qj:∀(bo be:Nat) (co ce:List AV),D8 Tryz.prog 173 [.ptr bo 0,.ptr be 0] (.ret) [.box bo co,.box be ce] (fun H'=>H'=[.box bo co,.box be ce]):=by
 intro bo be co ce;refine GQ (ty2:=0) Tryz.func173 O rJ (n:=9) O O O O O O (BQ (D3 O (BA O (Fb Wu O O O) (Ch O ?_))));refine BX O (fun c=>by cases c) (fun c=>?_);exact Bn ⟨.inl O,O,_,(HB (is:=[0,1]) O),O⟩
theorem pR:∀(bo be:Nat) (e:Int),D8 Tryz.prog 173 [.ptr bo 0,.ptr be 0] (.pan (.p (.iface 207 (I e)))) [.box bo [.p (I 0),.p (I 0),.p (.str ⟨#[]⟩),.p (.nils),.p (.nils)],.box be [.p (I 0)]] (fun H'=>H'=[.box bo [.p (I 0),.p (I 0),.p (.str ⟨#[]⟩),.p (.lst []),.p (.lst [])],.box be [.p (I e)]]):=by
 intro bo be e;refine GQ (ty2:=0) Tryz.func173 O rJ (n:=9) O O O O O O (BQ (D3 O (BA O (Fb Wu O O O) (BH (BE (i:=0) O) (Ch O ?_)))));refine BX O (fun c=>?_) (fun c=>by cases c);exact Be (BT tab 2 [] O (BA O (BF O O (QY _) O) (BT tab 2 [0,0,1,0] O (BH (BE (i:=0) O) (Ch O ⟨.inl O,O,_,(HB (is:=[0,1]) O),O⟩)))))
set_option maxHeartbeats 2000000 in
theorem ao:∀(t:Tm) (ps:List CX),(Nd t)→(Vp t)→(size t<1099511627776)→(ps.length<Db)→(∀p∈ps,OA p)→En Tryz.prog 145 [.agg ((BD t).map .p),.fn (.func 146) [] [.ref [.lst (List.map B4 ps)]]] (.tup [.agg ((BD ((BU t ps).1)).map .p),.p (I ((BU t ps).2))]):=by
 intro t ps h1 h2 h3 h4 h5;refine Em Tryz.func145 O vb (n:=11) O O (BQ (C8 O (Dk O) fun b2=>C8 O (Dk O) fun b3=>C8 O (Az Ba O) fun b4=>C8 O (Az a8 O) fun b5=>Ch O (BQ (BA O (EK O O) (LK O O O O (Ch O (BQ (BT tab 3 [3] O ?_))))))));refine GZ [2] O O O (.inl ⟨O,O,O⟩) (Pq (X1 ps) (fun _ T=>T=[.box b3 [.fn (.func 146) [] [.ref [.lst (List.map B4 ps)]]]]) 174 [.ptr b3 0] (fun s t d T hn hp h0 hb hT=>by subst hT;exact sR b3 ps s t d hn h4 h5) _ t 0 () _ (Nat.le_refl _) h1 h2 Au Ak rfl) ⟨_,_,rfl,rfl,rfl⟩ As (Dt _) (fun _ _ h=>(congrArg List.length h).trans rfl) ?_ ?_
 rotate_left
 ·intro e _ he;refine⟨_,_,_,O,K6 (is:=[1,0]) _ As ⟨_,_,O,O,⟨_,_,O,O,O⟩⟩,D8.eq (pR b4 b5 _) ?_⟩;refine⟨_,[],⟨_,_,O,(DR (i:=0) CN O O O),⟨_,_,O,(F9 (i:=1) QN O O),O⟩⟩,(List.nil_sublist _),?_⟩;rw[Zj ((QI t 0).symm.trans he)];exact⟨O,O⟩
 rintro⟨z,_⟩ _ hz rfl;refine BK tab 2 [1,1,0,0] O (CB (⟨_,_,_,O,DP (is:=[1,0]) As ⟨_,_,O,O,⟨_,_,O,O,O⟩⟩,D8.eq (qj b4 b5 _ _) ?_⟩));refine⟨_,_,⟨_,_,O,(DR (i:=0) CN O O Am),⟨_,_,O,(F9 (i:=1) QN O O),O⟩⟩,(List.nil_sublist _),?_⟩;rw[bY ((QI t 0).symm.trans hz)]
 all_goals exact⟨rfl,rfl⟩
theorem QH : ∀ (t : Tm) (ps : List CX), (Nd t) → (Vp t) → (size t < 1099511627776) → (ps.length < Db) → (∀ p ∈ ps, OA p) → En Tryz.prog 110 [.agg ((BD t).map .p), .p (.lst (List.map B4 ps))] (.tup [.agg ((BD ((BU t ps).1)).map .p), .p (I ((BU t ps).2))]) := by
 intro t ps h1 h2 h3 h4 h5
 refine DI Tryz.func110 ?_
 refine CG [0] O O fun b2 => ?_
 refine CG [0] O O fun b3 => ?_
 refine Bp [0] O (Az Ba O) fun b4 => ?_
 refine DS [1] O ?_
 refine BH (HR (i := 1) (cs := [.lst (List.map B4 ps)]) [3] O (DA ⟨O, Aw⟩)) ?_
 refine BW (CQ [2, 1] O (ao t ps h1 h2 h3 h4 h5) ?_)
 refine A9 [4, 0, 1] O (Bg [0] [] O O ⟨O, O⟩)
theorem Z9:∀(t:Tm),(Nd t)→(size t<1000000)→En Tryz.prog 163 [.agg ((BD t).map .p)] (.tup [.p (.lst (A6 ((Hz t).1))),.agg ((BD ((Hz t).2)).map .p)]):=by
 intro t h1 h2;refine DI Tryz.func163 (CG [0] O O fun b1=>Bp [1] O (Az Ba O) fun b3=>CK [1] O (A5 (DH (t:=4) (sz:=5) O) ?_));refine BP (GG (α:=Tm×List Tm×Option Nat×Nat) [0] [1,3] [0,1,2] (fun(y,l,o,cp)=>[(4,.vs o (A6 l).length cp)]) (fun(y,l,o,cp)=>[(0,.vec o 5 (A6 l) cp),(2,.box b1 ((BD y).map .p))]) (fun(y,l,o,cp)=>size y) (fun(y,l,o,cp)=>Nd y∧l.length+size y≤size t∧(l++(Hz y).1,(Hz y).2)=Hz t) ⟨t,[],none,0⟩ O O O (⟨h1,by simp,by simp⟩) ?_);rintro⟨y,l,o,cp⟩ hC
 try simp only at hC
 have hl0:l.length<1000000:=by have:=hC.2.1;omega
 obtain⟨yk,yi,yn,yl,ys⟩:=y;refine CI [0] 2 [1,3,4] 13 (((yk:Int)==(6:Int))&&(((ys.length:Nat):Int)==(2:Int))) O O ?_ ?_
 ·refine Bc [4,2] 8 rfl rfl ?_ ?_<;>intro g
  ·exact CA [2,2] O O (A8 _) (CT [2] O)
  exact CT [5] O
 refine BC [0] rfl ?_ ?_<;>intro c
 ·refine D7 [3,2] ys 0 O O O (IH _) (fun x hx=>?_) (hj:=⟨Au,by first | rfl | omega,(by first | omega | (simp at c;omega))⟩);obtain⟨xk,xi,xn,xl,xs⟩:=x;refine A2 [1] O (BJ BS Ba O O O O O) (DS [0] O (ET O O (Bi (i:=0) (rows':=A6 [(.mk xk xi xn xl xs:Tm)]) BS BS Ba O O O O O O (Bd _) AD (Hj l [(.mk xk xi xn xl xs:Tm)])) fun o1 cp1=>?_));refine BW (D7 [3,2] ys 1 O O O (IH _) (fun x1 hx1=>?_) (hj:=⟨Au,by first | rfl | omega,(by first | omega | (simp at c;omega))⟩));exact FR [2,2,1] 0 ⟨x1,l++[(.mk xk xi xn xl xs:Tm)],o1,cp1⟩ O (⟨DV hC.1.2.2.2.2.1 hx1,by have:=CU hx1;have:=hC.2.1;simp only[size] at *;simp only[List.length_append,List.length_cons,List.length_nil];omega,V2 c hx hx1 hC.2.2⟩) (hμ:=(by have:=CU hx1;simp only[size];omega))
 refine DF [0] O (E2 [0] [] O (Dj [4,2,1,0] O (CK [0] O ?_)));refine A5 (CL (i:=0) [4,25,2] O (DA ⟨O,O,O,Aw⟩)) ?_;refine BP (A9 [0] O (Bg [0] [] O O ⟨by rw[ZQ Au hC.2.2];rfl,rfl⟩))
theorem ea:∀(t:Tm),(Nd t)→(size t<1000000)→En Tryz.prog 182 [.agg ((BD t).map .p)] (.tup [.p (.lst (A6 ((Hz t).1))),.agg ((BD ((Hz t).2)).map .p)]):=by
 intro t h1 h2;refine DI Tryz.func182 (CG [0] O O fun b1=>Bp [1] O (Az Ba O) fun b3=>CK [1] O (A5 (DH (t:=4) (sz:=5) O) ?_));refine BP (GG (α:=Tm×List Tm×Option Nat×Nat) [0] [1,3] [0,1,2] (fun(y,l,o,cp)=>[(4,.vs o (A6 l).length cp)]) (fun(y,l,o,cp)=>[(0,.vec o 5 (A6 l) cp),(2,.box b1 ((BD y).map .p))]) (fun(y,l,o,cp)=>size y) (fun(y,l,o,cp)=>Nd y∧l.length+size y≤size t∧(l++(Hz y).1,(Hz y).2)=Hz t) ⟨t,[],none,0⟩ O O O (⟨h1,by simp,by simp⟩) ?_);rintro⟨y,l,o,cp⟩ hC
 try simp only at hC
 have hl0:l.length<1000000:=by have:=hC.2.1;omega
 obtain⟨yk,yi,yn,yl,ys⟩:=y;refine CI [0] 2 [1,3,4] 13 (((yk:Int)==(6:Int))&&(((ys.length:Nat):Int)==(2:Int))) O O ?_ ?_
 ·refine Bc [4,2] 8 rfl rfl ?_ ?_<;>intro g
  ·exact CA [2,2] O O (A8 _) (CT [2] O)
  exact CT [5] O
 refine BC [0] rfl ?_ ?_<;>intro c
 ·refine D7 [3,2] ys 0 O O O (IH _) (fun x hx=>?_) (hj:=⟨Au,by first | rfl | omega,(by first | omega | (simp at c;omega))⟩);obtain⟨xk,xi,xn,xl,xs⟩:=x;refine A2 [1] O (BJ BS Ba O O O O O) (DS [0] O (ET O O (Bi (i:=0) (rows':=A6 [(.mk xk xi xn xl xs:Tm)]) BS BS Ba O O O O O O (Bd _) AD (Hj l [(.mk xk xi xn xl xs:Tm)])) fun o1 cp1=>?_));refine BW (D7 [3,2] ys 1 O O O (IH _) (fun x1 hx1=>?_) (hj:=⟨Au,by first | rfl | omega,(by first | omega | (simp at c;omega))⟩));exact FR [2,2,1] 0 ⟨x1,l++[(.mk xk xi xn xl xs:Tm)],o1,cp1⟩ O (⟨DV hC.1.2.2.2.2.1 hx1,by have:=CU hx1;have:=hC.2.1;simp only[size] at *;simp only[List.length_append,List.length_cons,List.length_nil];omega,V2 c hx hx1 hC.2.2⟩) (hμ:=(by have:=CU hx1;simp only[size];omega))
 refine DF [0] O (E2 [0] [] O (Dj [4,2,1,0] O (CK [0] O ?_)));refine A5 (CL (i:=0) [4,25,2] O (DA ⟨O,O,O,Aw⟩)) ?_;refine BP (A9 [0] O (Bg [0] [] O O ⟨by rw[ZQ Au hC.2.2];rfl,rfl⟩))
theorem WC:∀(d:B8) (k:Int),(Q0 d)→(0≤d.fixed∧d.fixed≤1000000)→(0≤k)→(k<d.ctors.length)→En Tryz.prog 124 [.agg ((B1 d).map .p),.p (I k)] (.p (I (Ed d k))):=by
 intro d k h1 h2 h3 h4;have hcl:=h1.cl;refine DI Tryz.func124 (CG [0] O O fun b2=>A2 [2] O (Ax (i:=0) GC O O (B5 _)) ?_);obtain⟨x,hx⟩:=A1 (l:=d.ctors) (i:=(k:Int).toNat) Au;have hct:=h1.cs _ (List.mem_of_getElem? hx);have htl:=JB x.type;have hsz:=hct.ty.sz;refine A2 [1] O (A0 Km O O Au (Gr hx) (Ei _)) (A2 [1] O (Dh CN O (GW _) (A7 _)) (CQ [0] O (Z9 x.type hct.ty.nd hct.ty.sz) (Bp [3] O (Az Ba O) fun b6=>CA [3,0,1] O O (A8 _) (A2 [1] O (Ax (i:=1) Dz O O (Cr _)) (A2 [1] O (F7 O O) (A9 [1] O (Bg [] [] O O ⟨pI (by unfold Ed aZ EM;rw[CO hx]),O⟩)))))))
theorem Z6 : ∀ (d : B8), (Q0 d) → (0 ≤ d.fixed ∧ d.fixed ≤ 1000000) → En Tryz.prog 122 [.agg ((B1 d).map .p)] (.p (I (Mw d))) := by
 intro d h1 h2
 have htl := JB d.type
 have hsz := h1.ty.sz
 refine DI Tryz.func122 ?_
 refine CG [0] O O fun b1 => ?_
 refine A2 [2] O (Bq (i := 0) CN O O (Fk _) (A7 _)) ?_
 refine CQ [0] O (Z9 d.type h1.ty.nd h1.ty.sz) ?_
 refine Bp [3] O (Az Ba O) fun b4 => ?_
 refine CA [3, 0, 1] O O (A8 _) ?_
 refine A2 [1] O (Ax (i := 1) Dz O O (Cr _)) ?_
 refine A2 [1] O (F7 O O) ?_
 refine A9 [1] O (Bg [] [] O O ⟨pI O, O⟩)
theorem LR : ∀ (d : B8), (Q0 d) → (0 ≤ d.fixed ∧ d.fixed ≤ 1000000) → En Tryz.prog 75 [.agg ((B1 d).map .p)] (.p (I (Bv d))) := by
 intro d h1 h2
 have hir := GM h1 h2
 have hcl := h1.cl
 refine DI Tryz.func75 ?_
 refine CG [0] O O fun b1 => ?_
 refine E2 [1] [] O ?_
 refine A3 O (fun _ => BG Kc O O) Aw ?_
 refine CF (j := 0) O O O (fun H i hi => Ax (i := i) Dz O hi (Cr _)) AB Aw ?_
 refine Bb [2] O ?_
 refine CF (j := 0) O O O (fun H i hi => Ax (i := i) GC O hi (B5 _)) AB Aw ?_
 refine A3 O (fun _ => Ct Km O (List.length_map _)) Aw ?_
 refine Bb [2, 0] O ?_
 refine A3 O (fun _ => BF O O (Z6 d h1 h2) O) Aw ?_
 refine Dj [2] O (A9 [0] O (Bg [] [] O O ⟨pI O, O⟩))
theorem Ym : ∀ (d : B8), (Q0 d) → (0 ≤ d.fixed ∧ d.fixed ≤ 1000000) → En Tryz.prog 151 [.agg ((B1 d).map .p)] (.p (I (Bv d))) := by
 intro d h1 h2
 have hir := GM h1 h2
 have hcl := h1.cl
 have htl := JB d.type
 have hsz := h1.ty.sz
 refine DI Tryz.func151 ?_
 refine CG [0] O O fun b1 => ?_
 refine A2 [2] O (Bq (i := 0) CN O O (Fk _) (A7 _)) ?_
 refine CQ [0] O (ea d.type h1.ty.nd h1.ty.sz) ?_
 refine Bp [3] O (Az Ba O) fun b4 => ?_
 refine A2 [3, 0, 1] O (Ax (i := 1) Dz O O (Cr _)) ?_
 refine A2 [2] O (Ax (i := 1) GC O O (B5 _)) ?_
 refine CA [0] O O (List.length_map _) ?_
 refine CA [2] O O (A8 _) ?_
 refine A2 [1] O (Ax (i := 1) Dz O O (Cr _)) ?_
 refine A2 [1] O (F7 O O) ?_
 refine A9 [2] O (Bg [] [] O O ⟨pI O, O⟩)
theorem PM : ∀ (l : List Tm), (l.length < Db) → En Tryz.prog 121 [.p (.lst (A6 l))] (.p (.lst (A6 l.reverse))) := by
 intro l h1
 simp only [Db] at h1
 refine DI Tryz.func121 ?_
 refine CA [3] O O (A8 _) ?_
 refine CK [2] O ?_
 refine A5 (DH (t := 3) (sz := 5) O) ?_
 refine BP (GG (α := Nat × Option Nat × Nat) [0] [0] [0] (fun (m, o, cp) => [(3, .vs o (A6 ((l.drop m).reverse)).length cp), (4, .p (I ((m : Int) - 1)))]) (fun (m, o, cp) => [(0, .vec o 5 (A6 ((l.drop m).reverse)) cp)]) (fun (m, o, cp) => m) (fun (m, o, cp) => m ≤ l.length) ⟨l.length, none, 0⟩ O O O AY ?_ (e0 := ⟨we (H9 [] Av), we (pI Au), Aw⟩) (e1 := wl (Gw [] Av) (Ih)))
 rintro ⟨m, o, cp⟩ hC
 try simp only at hC
 refine BC [2] rfl ?_ ?_ <;> intro c
 ·refine D7 [3] l (((m : Int) - 1 : Int).toNat) O O O (IH _) (fun x hx => ?_)
  obtain ⟨xk, xi, xn, xl, xs⟩ := x
  refine A2 [1] O (BJ BS Ba O O O O O) ?_
  refine DS [0] O ?_
  refine ET O O (Bi (i := 0) (rows' := A6 [(.mk xk xi xn xl xs : Tm)]) BS BS Ba O O O O O O (Bd _) (by simp only [A8, List.length_reverse, List.length_drop, List.length_cons, List.length_nil]; omega) (Hj ((l.drop m).reverse) [(.mk xk xi xn xl xs : Tm)])) fun o1 cp1 => ?_
  exact BW (FR [4] 0 ⟨m - 1, o1, cp1⟩ O (by first | trivial | omega | (simp only; omega) | (simp; omega)) (e1 := ⟨we (H9 ((l.drop m).reverse ++ [(.mk xk xi xn xl xs : Tm)]) (ZB (by simpa using hx) Au)), we (pI Au), Aw⟩) (e2 := wl (Gw ((l.drop m).reverse ++ [(.mk xk xi xn xl xs : Tm)]) (ZB (by simpa using hx) Au)) (Ih)))
 refine DF [0] O ?_
 refine CK [2] O ?_
 refine A5 (CL (i := 0) [3, 19, 2] O (DA ⟨O, O, O, Aw⟩)) ?_
 refine BP (A9 [0] O (Bg [] [] O O ⟨by rw [show m = 0 by omega, List.drop_zero]; try rfl, rfl⟩))
theorem Th : ∀ (ds : List B8) (h : Tm), (IT ds) → En Tryz.prog 73 [.p (.lst (List.map B1 ds)), .agg ((BD h).map .p)] (.tup [.agg ((GH ((BY ds h.name).1)).map .p), .p (.bool (Up ds h))]) := by
 intro ds h h1
 obtain ⟨hk, hi, hn, hl, hs⟩ := h
 refine DI Tryz.func73 ?_
 refine CG [0] O O fun b3 => ?_
 refine Bp [0] O (Az GL O) fun b4 => ?_
 refine CQ [4, 1] O (Ms ds hn h1) ?_
 refine Bp [3] O (Az GL O) fun b6 => ?_
 refine E2 [2, 0, 1] [] O ?_
 refine Bb [4, 0] O ?_
 refine Da 18 O (fun g => ?_) (fun g => ?_)
 ·(try simp only [sd, se] at g)
  refine Bb [2, 2] O ?_
  refine Bx O (fun _ => Ct KX O (List.length_map _)) Aw ?_
  refine Bx O (fun _ => BG MT O O) Aw ?_
  refine M3 (i := 0) O O O O O (fun H i hi => Ax (i := i) Dz O hi (IN _)) AB Aw ?_
  refine Dj [4, 1, 1] O (A9 [0] O (Bg [1] [] O O ⟨by rw [m4 (k := hk) (i := hi) (ks := hs) (by first | exact g | omega)]; rfl, rfl⟩))
 (try simp only [sd, se] at g)
 refine Dj [9, 1, 1] O (A9 [0] O (Bg [1] [] O O ⟨by rw [rp (k := hk) (i := hi) (ls := hl) (ks := hs) (by first | exact g | omega)]; rfl, rfl⟩))
theorem _root_.Go.AZ {α:Prop}(h:α:=by simp only[A8,List.length_map];omega):α:=h
theorem PX : ∀ (ds : List B8) (t : Tm), (MC ds) → (okB t = true) → En Tryz.prog 76 [.p (.lst (List.map B1 ds)), .agg ((BD t).map .p)] (.tup [.agg ((B1 ((Bo ds t).1)).map .p), .p (I ((Bo ds t).2.1)), .p (.lst (A6 ((Bo ds t).2.2.1))), .p (.bool ((Bo ds t).2.2.2))]) := by
 intro ds t h1 h2
 have ho := Bu.1 h2
 have hosz := ho.sz
 have hoss := EL t
 have hosl := P6 t
 have hosp := DB h2
 refine DI Tryz.func76 ?_
 refine CG [0] O O fun b3 => ?_
 refine Bp [0] O (Az Ie O) fun b4 => ?_
 refine CQ [4, 1] O (LG _ t (Nat.le_refl _) Ak) ?_
 refine Bp [3] O (Az Ba O) fun b8 => ?_
 generalize hz : (Ay t).1 = z
 obtain ⟨zk, zi, zn, zl, zs⟩ := z
 refine BC [5, 0, 1, 0] rfl ?_ ?_ <;> intro c
 ·refine CK [5, 1, 0] O ?_
  refine A5 (BE (i := 1) O) ?_
  refine A5 (Fg 6) ?_
  refine BP (A9 [0] O (Bg [1] [] O O ⟨by rw [NX (dQ hz c)]; rfl, rfl⟩))
 refine CQ [3, 0] O (S8 ds zn h1.env) ?_
 refine Bp [4] O (Az Ie O) fun b10 => ?_
 refine CI [3, 0, 1] 5 [4, 9, 10, 11] 46 (((!((Co ds zn).2.2)) || (decide (((Co ds zn).2.1 : Int) < (0 : Int)))) || (((((Ay t).2).length : Nat) : Int) != ((((Co ds zn).1).fixed : Int) + (Ed (Co ds zn).1 (Co ds zn).2.1 : Int) : Int))) O O ?_ ?_
 ·refine E2 [0] [] O ?_
  refine Bb [3] O ?_
  refine Da 32 O (fun g => ?_) (fun g => ?_)
  ·(try simp only [sd, se] at g)
   refine CY tab 14 [] O ?_
   exact Cu (CT [0] O)
  (try simp only [sd, se] at g)
  have hf1 : (Co ds zn).2.2 = true := by simpa using g
  refine Bb [4] O ?_
  refine Da 36 O (fun g1 => ?_) (fun g1 => ?_)
  ·(try simp only [sd, se] at g1)
   refine CY tab 10 [] O ?_
   exact Cu (CT [0] O)
  (try simp only [sd, se] at g1)
  have hf2 : ¬ (Co ds zn).2.1 < 0 := by simpa using g1
  have hfd := aj h1 hf1 hf2
  have hfr := Ld hfd.1 hfd.2.2.1 hfd.2.2.2 hfd.2.1.1
  have hfx := hfd.2.1
  refine Bx O (fun _ => Bh O) Aw ?_
  refine Bx O (fun _ => Ct BS O (A8 _)) Aw ?_
  refine Bb [1] O ?_
  refine M3 (i := 0) O O O O O (fun H i hi => Ax (i := i) Dz O hi (Cr _)) AB Aw ?_
  refine Bb [2, 0] O ?_
  refine Bx O (fun _ => BF O O (WC ((Co ds zn).1) ((Co ds zn).2.1) hfd.1 hfd.2.1 hfd.2.2.1 hfd.2.2.2) O) Aw ?_
  refine CY tab 3 [] O ?_
  exact Cu (CT [0] O)
 refine BC [0] rfl ?_ ?_ <;> intro c1
 ·have hcc := or_assoc.1 c1
  refine CK [5, 2, 0] O ?_
  refine A5 (BE (i := 2) O) ?_
  refine A5 (Fg 6) ?_
  refine BP (A9 [0] O (Bg [2] [] O O ⟨by rw [NX (pb hz (by simpa using c) hcc)]; rfl, rfl⟩))
 have hcc : (Co ds zn).2.2 = true ∧ ¬ (Co ds zn).2.1 < 0 ∧ ((Ay t).2.length : Int) = (Co ds zn).1.fixed + Ed (Co ds zn).1 (Co ds zn).2.1 := ⟨c1.1.1, by omega, c1.2⟩
 have hfd := aj h1 hcc.1 hcc.2.1
 have hfr := Ld hfd.1 hfd.2.2.1 hfd.2.2.2 hfd.2.1.1
 have hfx := hfd.2.1
 have hl3 := hcc.2.2
 refine E2 [0] [] O ?_
 refine Bb [4, 0] O ?_
 refine CF (j := 0) O O O (fun H i hi => Ax (i := i) Dz O hi (Cr _)) AB Aw ?_
 refine A3 O (fun _ => Cn (lo := (((Co ds zn).1).fixed : Int).toNat) BS O (CW (Bd _)) ⟨_, pI Au⟩ O AZ (Nat.le_refl _) (MR ((Ay t).2) ((((Co ds zn).1).fixed : Int).toNat))) Aw ?_
 refine Dj [4, 2, 1] O (A9 [0] O (Bg [2] [] O O ⟨by rw [R6 (lE hz (by simpa using c) hcc.1 hcc.2.1 hcc.2.2)]; try rfl, rfl⟩))
theorem tz:∀(l b1 b2:Nat) (d:B8) (at_:Int) (nm:ByteArray) (TA:IJ→List A4) (T0:List A4),(d.kind=0∨Q0 d)→(∀s e,(s,e)∈GD d at_→Mn Tryz.prog l [.p (.str s),.agg ((GH e).map .p)] T0 (ZX (.p (.bool (!decide (s=nm)))) (fun T=>T=if s=nm then TA e else T0)))→BL Tryz.prog 172 [.fn (.yield l) [] [],.ptr b2 0,.ptr b1 0] (.box b1 ((B1 d).map .p):: .box b2 [.p (I at_)]::T0) (ZX (.tup []) (fun H=>∃T,T=Jb TA T0 nm (GD d at_)∧H= .box b1 ((B1 d).map .p):: .box b2 [.p (I at_)]::T)):=by
 intro l b1 b2 d at_ nm TA T0 h1 h2;refine Cb Tryz.func172 O wL (n:=98) O O (BQ (BT tab 2 [1] O (BA O (Ax (i:=0) Dz O O (Cv _)) (BA O (BG Kc O O) (BA O (Bq (i:=0) CN O O (Fk _) (A7 _)) (BA O (EW MT GL (lg O O O)) (C8 O (Az GL O) fun b4=>BK tab 1 [0,1] O (BQ (BA O (BG Kc O O) (BA O (Ax (i:=1) Dz O O (EU _)) (Ch O (B3 (BR (BZ tab 2 [] O (Gq [0,1,2,4,16] 17 (fun y=>y= .p (.bool (decide (d.kind=0∨d.kind=1∨d.kind=2)))) ?_ ?_)))))))))))))))
 ·refine BX O (fun c=>?_) (fun c=>?_)
  ·(try simp only[sd,se] at c);exact Bn (⟨O,O,(List.Sublist.refl _),(by refine pB (Bool.eq_iff_iff.2 ?_);simp only[beq_iff_eq,decide_eq_true_eq];omega),⟨O,O,O,O,O,Aw⟩⟩)
  (try simp only[sd,se] at c);refine BZ tab 2 [] O (BX O (fun c1=>?_) (fun c1=>?_))
  ·(try simp only[sd,se] at c1);exact Bn (⟨O,O,(List.Sublist.refl _),(by refine pB (Bool.eq_iff_iff.2 ?_);simp only[beq_iff_eq,decide_eq_true_eq];omega),⟨O,O,O,O,O,Aw⟩⟩)
  (try simp only[sd,se] at c1);exact Be (BK tab 2 [] O (⟨O,O,(List.Sublist.refl _),(by refine pB (Bool.eq_iff_iff.2 ?_);simp only[beq_iff_eq,decide_eq_true_eq];omega),⟨O,O,O,O,O,Aw⟩⟩))
 rintro _ rfl;refine BX O (fun c=>?_) (fun c=>?_)
 ·(try simp only[sd,se] at c);have hx0:([0,1,2]:List Int)[d.kind.toNat]?=some d.kind:=by
   have:d.kind=0∨d.kind=1∨d.kind=2:=by simpa using c
   rcases this with e | e | e<;>rw[e]<;>rfl
  have hk0:0≤d.kind∧d.kind<3:=by
   have:d.kind=0∨d.kind=1∨d.kind=2:=by simpa using c
   omega
  refine BQ (BA O (BJ HL mT O O O O O) (BA O (BG Kc O O) (BA O (Ax (i:=1) Dz O O (EU _)) (BA O (A0 HL O O Au (K4 hx0) (O)) (BT tab 2 [] O (BA O (EI (i:=0) (ds:=(GH (IJ.mk d.kind at_ 0 d.params d.type)).map .p) Dz O O O O O O O) (Ch O (Be (BT tab 2 [] O (BA O (Ax (i:=1) N7 O O (DZ _)) (BA O (Cy (i:=0) dt O O (by simp[O7])) (Ju [_,_,_] O O O O (h2 _ _ (jo (by simpa using c))) O ?_ (fun _ _ h=>h.elim)))))))))))));rintro _ T ⟨rfl,hT⟩;refine Ch O ⟨O,_,_,O,(Et [1,2] [_,_,_] O),?_⟩;exact⟨O,_,(hT.trans (bF (by simpa using c)).symm),O⟩
 (try simp only[sd,se] at c);have hD:Q0 d:=by
  rcases h1 with h | h
  ·exact absurd (show d.kind=0∨d.kind=1∨d.kind=2 from .inl h) (by simpa using c)
  exact h
 have hcl:=hD.cl;have hfl:=hD.fl;refine BZ tab 2 [] O (BX O (fun c1=>?_) (fun c1=>?_))
 ·(try simp only[sd,se] at c1);refine BQ (BA O (BG MT O O) (BA O (EI (i:=0) (ds:=(GH (IJ.mk 3 at_ 0 d.params d.type)).map .p) Dz O O O O O O O) (Ch O (BR (BQ (BT tab 2 [] O (BA O (Ax (i:=1) N7 O O (DZ _)) (BA O (Cy (i:=0) dt O O (by simp[O7])) (Ju [_,_,_] O O O O (h2 _ _ (qM (by simpa using c1))) O ?_ (fun _ _ h=>h.elim))))))))));rintro _ T ⟨rfl,hT⟩;refine BK tab 1 [] O (BX O (fun c2=>?_) (fun c2=>?_))
  ·(try simp only[sd,se] at c2);refine CB ⟨O,_,_,O,(Et [1,2] [_,_,_] O),?_⟩;exact⟨O,_,(hT.trans ((if_pos (by simpa using c2)).trans (iY (by simpa using c1) (by simpa using c2)).symm)),O⟩
  (try simp only[sd,se] at c2);have qc2:¬(d.name=nm):=by simpa using c2
  rw[if_neg qc2] at hT;have hT:=hT.symm;subst hT;refine Bn (BR (BQ (BA O (BG Kc O O) (BA O (Ax (i:=1) GC O O (B5 _)) (BA O (Ct Km O (List.length_map _)) (BK tab 1 [] O (B3 ?_)))))));refine Er (α:=Nat) (fun i=>⟨98,mk [(0,.fn (.yield l) [] []),(1,.ptr b2 0),(2,.ptr b1 0),(42,.p (.lst (List.map KB d.ctors))),(43,.p (I (d.ctors.length:Nat))),(44,.p (I (i:Int)))],(.box b1 ((B1 d).map .p):: .box b2 [.p (I at_)]::T0),[]⟩) (fun i=>d.ctors.length - i) (fun i=>i≤d.ctors.length∧(∀j,j<i→∀y,d.ctors[j]?=some y→y.name≠nm)) 0 (⟨by omega,fun j h=>by omega⟩) ?_ ?_
  ·exact Ec ⟨we O,we O,we O,we O,we O,we O,Aw⟩ (Uf [1,2] [_,_,_] (l':=[_,_]) O (wl (oe O) (wl (oe O) (Ih))))
  rintro i hC
  try simp only at hC
  obtain⟨hi,hC⟩:=hC;refine BZ tab 1 [] O (BR (BX O (fun c3=>?_) (fun c3=>?_)))
  ·(try simp only[sd,se] at c3);refine Bn (BR (B3 (BQ (D3 O ?_))));obtain⟨x,hx⟩:=A1 (l:=d.ctors) (i:=i) Au;refine BA O (A0 Km O O Au (Gr hx) (Ei _)) (BA O (Bk uw O (Ei _)) (C8 O (Az wK O) fun b6=>BK tab 2 [0,1] O (BQ (BT tab 2 [] O (BA O (Ax (i:=0) N7 O O (GR _)) (BT tab 3 [2] O (BA O (Ax (i:=1) Dz O O (Cv _)) (BA O (BG UG O O) (BA O (Bq (i:=0) CN O O (GW _) (A7 _)) (BA O (EW MT GL (PC O O O O O)) (Ju [_,_,_] O O O O (h2 _ _ (jW (by simpa using c1) hx)) O ?_ (fun _ _ h=>h.elim))))))))))));rintro _ T1 ⟨rfl,hT1⟩;refine BK tab 1 [] O (BX O (fun c4=>?_) (fun c4=>?_))
   ·(try simp only[sd,se] at c4);refine CB ⟨O,_,_,O,(Et [1,2] [_,_,_] O),?_⟩;exact⟨O,_,(hT1.trans ((if_pos (by simpa using c4)).trans (bK (by simpa using c1) qc2 hx (by simpa using c4) hC).symm)),O⟩
   (try simp only[sd,se] at c4);have qc4:¬(x.name=nm):=by simpa using c4
   rw[if_neg qc4] at hT1;have hT1:=hT1.symm;subst hT1;refine Bn (Be (BK tab 2 [] O (⟨(i+1),Ae,⟨by omega,Cg (p:=fun _ (y:LQ)=>y.name≠nm) hC hx qc4⟩,Ec ⟨we rfl,we rfl,we rfl,we rfl,we rfl,we rfl,trivial⟩ (Uf [1,2] [_,_,_] (l':=[_,_]) rfl (wl (oe rfl) (wl (oe rfl) (Ih))))⟩)))
  (try simp only[sd,se] at c3);refine EN (Be (BT tab 2 [] O (BA O (Ax (i:=0) N7 O O (DZ _)) (BA O (Tw O O (by have:(⟨#[46,114,101,99]⟩:ByteArray).size=4:=rfl;have:=hD.nm;omega)) (BT tab 3 [1] O (BA O (Ax (i:=0) Dz O O (Du _)) (BT tab 2 [] O (BA O (Bq (i:=0) CN O O (Fa _) (A7 _)) (BA O (EW MT GL (eK O O O O)) (Ju [_,_] O O O O (h2 _ _ (rF (by simpa using c1))) O ?_ (fun _ _ h=>h.elim)))))))))));rintro _ T1 ⟨rfl,hT1⟩;refine Ch O ⟨O,_,_,O,(Et [0,1] [_,_] O),?_⟩;exact⟨O,_,(hT1.trans (iv (by simpa using c1) qc2 fun j hj=>hC j Au).symm),O⟩
 (try simp only[sd,se] at c1);refine BZ tab 2 [] O (BX O (fun c2=>?_) (fun c2=>?_))
 ·(try simp only[sd,se] at c2);refine BQ (BA O (BG Kc O O) (BA O (Ax (i:=1) F6 O O (CD _)) (BA O (Ct J2 O (List.length_map _)) (BK tab 1 [] O (B3 ?_)))));refine Er (α:=Nat) (fun i=>⟨98,mk [(0,.fn (.yield l) [] []),(1,.ptr b2 0),(2,.ptr b1 0),(78,.p (.lst (List.map Ix d.funs))),(79,.p (I (d.funs.length:Nat))),(80,.p (I (i:Int)))],(.box b1 ((B1 d).map .p):: .box b2 [.p (I at_)]::T0),[]⟩) (fun i=>d.funs.length - i) (fun i=>i≤d.funs.length∧(∀j,j<i→∀y,d.funs[j]?=some y→y.name≠nm)) 0 (⟨by omega,fun j h=>by omega⟩) ?_ ?_
  ·exact Ec ⟨we O,we O,we O,we O,we O,we O,Aw⟩ (Uf [1,2] [_,_,_] (l':=[_,_]) O (wl (oe O) (wl (oe O) (Ih))))
  rintro i hC
  try simp only at hC
  obtain⟨hi,hC⟩:=hC;refine BZ tab 1 [] O (BR (BX O (fun c3=>?_) (fun c3=>?_)))
  ·(try simp only[sd,se] at c3);refine Bn (BR (B3 (BQ (D3 O ?_))));obtain⟨x,hx⟩:=A1 (l:=d.funs) (i:=i) Au;refine BA O (A0 J2 O O Au (Fe hx) (Eh _)) (BA O (Bk uy O (Eh _)) (C8 O (Az mQ O) fun b8=>BK tab 2 [0,1] O (BQ (BT tab 2 [] O (BA O (Ax (i:=0) N7 O O (Jk _)) (BT tab 3 [2] O (BA O (Ax (i:=1) Dz O O (Cv _)) (BA O (BG O2 O O) (BA O (Bq (i:=0) CN O O (Ji _) (A7 _)) (BA O (EW MT GL (PC O O O O O)) (Ju [_,_,_] rfl rfl rfl rfl (h2 _ _ (pC (by simpa using c2) hx)) rfl ?_ (fun _ _ h=>h.elim))))))))))));rintro _ T ⟨rfl,hT⟩;refine BK tab 1 [] O (BX O (fun c4=>?_) (fun c4=>?_))
   ·(try simp only[sd,se] at c4);refine CB ⟨O,_,_,O,(Et [1,2] [_,_,_] O),?_⟩;exact⟨O,_,(hT.trans ((if_pos (by simpa using c4)).trans (gv (by simpa using c2) hx (by simpa using c4) hC).symm)),O⟩
   (try simp only[sd,se] at c4);have qc4:¬(x.name=nm):=by simpa using c4
   rw[if_neg qc4] at hT;have hT:=hT.symm;subst hT;refine Bn (Be (BK tab 2 [] O (⟨(i+1),Ae,⟨by omega,Cg (p:=fun _ (y:I9)=>y.name≠nm) hC hx qc4⟩,Ec ⟨we rfl,we rfl,we rfl,we rfl,we rfl,we rfl,trivial⟩ (Uf [1,2] [_,_,_] (l':=[_,_]) rfl (wl (oe rfl) (wl (oe rfl) (Ih))))⟩)))
  (try simp only[sd,se] at c3);refine EN ⟨O,_,_,O,(Et [0,1] [_,_] O),?_⟩;exact⟨O,_,(bU (by simpa using c2) fun j hj=>hC j Au).symm,O⟩
 (try simp only[sd,se] at c2);refine Bn ⟨O,_,_,O,(Et [1,2] [_,_,_] O),?_⟩;exact⟨O,_,(bM (by simpa using c) (by simpa using c1) (by simpa using c2)).symm,O⟩
theorem sI:∀(d:B8) (at_:Int),BL Tryz.prog 144 [.agg ((B1 d).map .p),.p (I at_)] [] (fun r H'=>∃b1 b2,r= .val (.fn (.func 172) [] [.ptr b2 0,.ptr b1 0])∧H'=[.box b2 [.p (I at_)],.box b1 ((B1 d).map .p)]):=by
 intro d at_;refine DI Tryz.func144 (CG [0] O O fun b2=>CG [0] O O fun b3=>A9 [3] O (Bg [] [0,1] O O ⟨_,_,O,O⟩))
theorem eC:∀(ds:List B8) (nm:ByteArray),(ds.length<Db)→(x0 ds)→En Tryz.prog 109 [.p (.lst (List.map B1 ds)),.p (.str nm)] (.tup [.agg ((GH ((BY ds nm).1)).map .p),.p (I ((BY ds nm).2))]):=by
 intro ds nm h1 h2;simp only[Db] at h1;refine Em Tryz.func109 O wi (n:=28) O O (BQ (C8 O (Dk O) fun b3=>C8 O (Az GL O) fun b4=>C8 O (Az a8 O) fun b5=>Ch O (BR (BQ (D3 O (BA O (Ct Qb O (List.length_map _)) (BK tab 1 [] O (B3 ?_))))))));refine Er (α:=Nat×List Nat) (fun(i,U)=>⟨28,mk [(3,.ptr b3 0),(4,.ptr b4 0),(5,.ptr b5 0),(10,.p (.lst (List.map B1 ds))),(11,.p (I (ds.length:Nat))),(12,.p (I (i:Int)))],(.box b5 [.p (I 0)]:: .box b4 [.p (I 0),.p (I 0),.p (I 0),.p (I 0),.p (I 0),.p (I 0),.p (.str ⟨#[]⟩),.p (.nils),.p (.nils)]:: .box b3 [.p (.str nm)]::(U.map A4.dfr)),(U.map D4.mark)⟩) (fun(i,U)=>ds.length - i) (fun(i,U)=>i≤ds.length∧(∀j,j<i→∀y,ds[j]?=some y→C2 nm (GD y j)=none)) ⟨0,[]⟩ (⟨by omega,fun j h=>by omega⟩) ?_ ?_
 ·exact Ec ⟨we O,we O,we O,we O,we O,we O,Aw⟩ (Uf [0,1,2] [_,_,_] (l':=[_,_,_]) O (wl (oe O) (wl (oe O) (wl (oe O) (Ih)))))
 rintro⟨i,U⟩ hC
 try simp only at hC
 obtain⟨hi,hC⟩:=hC;refine BZ tab 1 [] O (BR (BX O (fun c=>?_) (fun c=>?_)))
 ·(try simp only[sd,se] at c);refine Bn (BR (B3 (BQ (D3 O ?_))));obtain⟨x,hx⟩:=A1 (l:=ds) (i:=i) Au;have hx0:=h2 _ (List.mem_of_getElem? hx);refine BA O (A0 Qb O O Au (G4 hx) (DJ _)) (BA O (Bk TE O (DJ _)) (C8 O (Az Ie O) fun b7=>BK tab 2 [0,1] O (BQ (BT tab 2 [0] O ?_))));refine Jj (Hs:=[]) O O O (.inl ⟨O,O,O⟩) (List.Perm.refl _) ((sI x ((i:Int))).args (aw (we O) (aw (we O) HT))) (.inl O) ?_ (fun _ _ ⟨_,_,h,_⟩=>by cases h);rintro _ _ ⟨bd,ba,h,rfl⟩;cases h;refine Ch O (B3 (SU (.inr O) fun dd l L hL=>⟨_,_,Un (is:=[3,2,0,4,5,6,7]) (base:=[_,_,_,_,_,_,_,_]) (rest:=[.dfr dd]) As ⟨_,_,O,O,⟨_,_,O,O,⟨_,_,O,O,⟨_,_,O,O,⟨_,_,O,O,⟨_,_,O,O,⟨_,_,O,O,O⟩⟩⟩⟩⟩⟩⟩ O,?_⟩));have hy:∀(sn:ByteArray) (en:IJ),(sn,en)∈GD x ((i:Int))→Mn Tryz.prog l [.p (.str sn),.agg ((GH en).map .p)] [.loop l L,.box b7 ((B1 x).map .p),.box b5 [.p (I 0)],.box b4 [.p (I 0),.p (I 0),.p (I 0),.p (I 0),.p (I 0),.p (I 0),.p (.str ⟨#[]⟩),.p (.nils),.p (.nils)],.box b3 [.p (.str nm)]] (ZX (.p (.bool (!decide (sn=nm)))) (fun T:List A4=>T=if sn=nm then [.loop l { L with state:= .done,pending:=some .ret },.box b7 ((B1 x).map .p),.box b5 [.p (I 0)],.box b4 ((GH en).map .p),.box b3 [.p (.str nm)]] else [.loop l L,.box b7 ((B1 x).map .p),.box b5 [.p (I 0)],.box b4 [.p (I 0),.p (I 0),.p (I 0),.p (I 0),.p (I 0),.p (I 0),.p (.str ⟨#[]⟩),.p (.nils),.p (.nils)],.box b3 [.p (.str nm)]])):=by
   intro sn en hm;obtain⟨LB,hLB⟩:∃x,x=A4.loop l { L with state:= .busy }:=⟨_,rfl⟩;subst hL;refine Vn (i:=0) O O O O (BZ tab 1 [] O (Be (C8 O (Az GL O) fun b9=>BK tab 1 [0,1] O ⟨O,1,O,?_⟩)));rw[←hLB];refine B3 (BQ (BT tab 2 [5] O (BA O (Gs O O) (Ch O (BX O (fun c1=>?_) (fun c1=>?_))))))
   ·(try simp only[sd,se] at c1);refine BZ tab 3 [0,4,1,3,0] O (CB ?_);subst hLB;refine⟨1,_,O,HB (is:=[1,2,3,4,5]) O,?_⟩;have hcc:sn=nm:=Gk (by simpa using c1);exact⟨by simp[hcc],(if_pos hcc).symm⟩
   (try simp only[sd,se] at c1);refine Bn ?_;subst hLB;refine⟨1,_,O,HB (is:=[1,2,3,4,5]) O,?_⟩;have hcc:¬(sn=nm):=fun h=>by simp[h] at c1
   exact⟨by simp[hcc],(if_neg hcc).symm⟩
  refine(tz l bd ba x ((i:Int)) nm (fun en=>[.loop l { L with state:= .done,pending:=some .ret },.box b7 ((B1 x).map .p),.box b5 [.p (I 0)],.box b4 ((GH en).map .p),.box b3 [.p (.str nm)]]) _ (hx0) hy).mono ?_;rintro(v | v) H' hR
  rotate_left
  ·exact hR.elim
  obtain⟨rfl,_,hT,rfl⟩:=hR;subst hL;unfold Jb at hT;cases hF:C2 nm (GD x ((i:Int))) with
  | some en =>
   rw[hF] at hT;simp only at hT;subst hT;refine bQ (i:=2) (.box bd ((B1 x).map .p):: .box ba [.p (I (i:Int))]:: .box b7 ((B1 x).map .p):: .box b5 [.p (I 0)]:: .box b4 ((GH en).map .p):: .box b3 [.p (.str nm)]::(.dfr dd::U.map A4.dfr)) O Av O O (CB (Q5 (dd::U) (Hs:=[_,_,_,_,_,_]) (⟨_,_,⟨_,_,O,(DR (i:=4) dt O O (by simp[O7])),⟨_,_,O,(F9 (i:=3) QN O O),O⟩⟩,(List.nil_sublist _),?_⟩)))
   all_goals exact⟨by show (.tup [.agg ((GH en).map .p),.p (I 0)]:AV)=_;rw[ly hx hC hF],rfl⟩
  | none =>
   rw[hF] at hT;simp only at hT;subst hT;refine Z2 (i:=2) (.box bd ((B1 x).map .p):: .box ba [.p (I (i:Int))]:: .box b7 ((B1 x).map .p):: .box b5 [.p (I 0)]:: .box b4 [.p (I 0),.p (I 0),.p (I 0),.p (I 0),.p (I 0),.p (I 0),.p (.str ⟨#[]⟩),.p (.nils),.p (.nils)]:: .box b3 [.p (.str nm)]::(.dfr dd::U.map A4.dfr)) O Av O O (Be (BK tab 2 [] O (⟨⟨i+1,dd::U⟩,Ae,⟨by omega,Cg (p:=fun j (y:B8)=>C2 nm (GD y j)=none) hC hx hF⟩,Ec ⟨we rfl,we rfl,we rfl,we rfl,we rfl,we rfl,trivial⟩ (Uf [3,4,5] [_,_,_,_,_,_] (l':=[_,_,_]) rfl (wl (oe rfl) (wl (oe rfl) (wl (oe rfl) (Ih)))))⟩)))
 (try simp only[sd,se] at c);refine EN (BZ tab 3 [1,0,0,0] O (A5 (BE (i:=1) O) (CB (Q5 U (Hs:=[_,_,_]) (⟨_,_,⟨_,_,O,(DR (i:=1) dt O O O),⟨_,_,O,(F9 (i:=0) QN O O),O⟩⟩,(List.nil_sublist _),?_⟩)))))
 all_goals exact⟨by show (.tup [.agg [.p (I 0),.p (I 0),.p (I 0),.p (I 0),.p (I 0),.p (I 0),.p (.str ⟨#[]⟩),.p (.lst []),.p (.lst [])],.p (I 9)]:AV)=_;rw[nC fun j hj=>hC j Au];rfl,rfl⟩
theorem gy : ∀ (ds : List B8) (nm : ByteArray), (IT ds) → En Tryz.prog 183 [.p (.lst (List.map B1 ds)), .p (.str nm)] (.tup [.agg ((B1 ((Co ds nm).1)).map .p), .p (I ((Co ds nm).2.1)), .p (.bool ((Co ds nm).2.2))]) := by
 intro ds nm h1
 have hl := h1.len
 refine DI Tryz.func183 ?_
 refine Bp [0] O (Az Ie O) fun b4 => ?_
 refine CQ [4] O (eC ds nm Ak (fun d hd => .inr (h1.all d hd))) ?_
 refine Bp [3] O (Az GL O) fun b7 => ?_
 refine BC [4, 0, 1] rfl ?_ ?_ <;> intro c
 ·refine CK [4, 1, 0] O ?_
  refine A5 (BE (i := 1) O) ?_
  refine BP (A9 [0] O (Bg [1] [] O O ⟨by rw [dX Au]; rfl, rfl⟩))
 obtain ⟨fi, fd, hfi, hfo⟩ := Ps (ds := ds) (nm := nm) Au
 have hdl := hfo.decl
 have hfl := (List.getElem?_eq_some_iff.1 hfi).1
 refine A2 [1] O (Ax (i := 0) Dz O O (FZ _)) ?_
 refine BC [2] rfl ?_ ?_ <;> intro c1
 ·refine A2 [2] O (Ax (i := 0) Dz O O (EJ _)) ?_
  refine D7 [0] ds ((((BY ds nm).1).decl : Int).toNat) O O O (H5 DJ) (fun x hx => ?_)
  refine A9 [4, 1, 1] O (Bg [1] [] O O ⟨by rw [rq Au Au hx]; try rfl, rfl⟩)
 refine BC [2] rfl ?_ ?_ <;> intro c2
 ·refine E2 [0] [] O ?_
  refine Bb [2] O ?_
  refine CF (j := 0) O O O (fun H i hi => Ax (i := i) Dz O hi (EJ _)) AB Aw ?_
  obtain ⟨x, hx⟩ := A1 (l := ds) (i := (((BY ds nm).1).decl : Int).toNat) Au
  refine A3 O (fun _ => A0 Qb O O Au (G4 hx) (DJ _)) Aw ?_
  refine Bb [2] O ?_
  refine CF (j := 0) O O O (fun H i hi => Ax (i := i) Dz O hi (GS _)) AB Aw ?_
  refine Dj [3, 1, 1] O (A9 [0] O (Bg [1] [] O O ⟨by rw [rk Au Au hx]; try rfl, rfl⟩))
 refine BC [2] rfl ?_ ?_ <;> intro c3
 ·refine A2 [2] O (Ax (i := 0) Dz O O (EJ _)) ?_
  refine D7 [0] ds ((((BY ds nm).1).decl : Int).toNat) O O O (H5 DJ) (fun x hx => ?_)
  refine A9 [4, 1, 1] O (Bg [1] [] O O ⟨by rw [ld Au Au hx]; try rfl, rfl⟩)
 refine CK [4, 1, 0] O ?_
 refine A5 (BE (i := 1) O) ?_
 refine BP (A9 [0] O (Bg [1] [] O O ⟨by rw [lK Au Au Au]; rfl, rfl⟩))
theorem gJ : ∀ (m : Nat) (ds : List B8) (n : Int) (h : Tm), (IT ds) → BL Tryz.prog 149 [.ptr m 0, .agg ((BD h).map .p)] [.box m [.p (.lst (List.map B1 ds)), .p (I n)]] (Gm (.tup [.agg ((GH ((BY ds h.name).1)).map .p), .p (.bool (Up ds h))]) [.box m [.p (.lst (List.map B1 ds)), .p (I n)]]) := by
 intro m ds n h h1
 have hel := h1.len
 obtain ⟨hk, hi, hn, hl, hs⟩ := h
 refine DI Tryz.func149 ?_
 refine CG [0] O O fun b3 => ?_
 refine Bp [0] O (Az GL O) fun b4 => ?_
 refine E2 [1] [10] O ?_
 refine Bb [6, 2, 1] O ?_
 refine A3 rfl (fun _ => BF rfl rfl (eC ds hn Ak (fun d hd => .inr (h1.all d hd))) rfl) trivial ?_
 refine Bb [3] O ?_
 refine Ge [] O O (Az GL O) Ap fun b6 => ⟨AB, Aw, ?_⟩
 refine Dj [2, 0, 1] O (E2 [0] [] O ?_)
 refine Bb [4, 0] O ?_
 refine Da 21 O (fun g => ?_) (fun g => ?_)
 ·(try simp only [sd, se] at g)
  refine Bb [2, 2] O ?_
  refine Bx O (fun _ => Ct KX O (List.length_map _)) Aw ?_
  refine Bx O (fun _ => BG MT O O) Aw ?_
  refine M3 (i := 0) O O O O O (fun H i hi => Ax (i := i) Dz O hi (IN _)) AB Aw ?_
  refine Dj [4, 1, 1] O (A9 [0] O (Bg [1] [3] O O ⟨by rw [m4 (k := hk) (i := hi) (ks := hs) (by first | exact g | omega)]; rfl, rfl⟩))
 (try simp only [sd, se] at g)
 refine Dj [9, 1, 1] O (A9 [0] O (Bg [1] [3] O O ⟨by rw [rp (k := hk) (i := hi) (ls := hl) (ks := hs) (by first | exact g | omega)]; rfl, rfl⟩))
theorem W7 : ∀ (m : Nat) (ds : List B8) (n : Int) (t : Tm), (MC ds) → (okB t = true) → BL Tryz.prog 152 [.ptr m 0, .agg ((BD t).map .p)] [.box m [.p (.lst (List.map B1 ds)), .p (I n)]] (Gm (.tup [.agg ((B1 ((Bo ds t).1)).map .p), .p (I ((Bo ds t).2.1)), .p (.lst (A6 ((Bo ds t).2.2.1))), .p (.bool ((Bo ds t).2.2.2))]) [.box m [.p (.lst (List.map B1 ds)), .p (I n)]]) := by
 intro m ds n t h1 h2
 have ho := Bu.1 h2
 have hosz := ho.sz
 have hoss := EL t
 have hosl := P6 t
 have hosp := DB h2
 refine DI Tryz.func152 ?_
 refine CG [0] O O fun b3 => ?_
 refine Bp [0] O (Az Ie O) fun b4 => ?_
 refine CQ [4, 1] O (O5 t ho.nd Ak) ?_
 refine Bp [3] O (Az Ba O) fun b8 => ?_
 generalize hz : (Ay t).1 = z
 obtain ⟨zk, zi, zn, zl, zs⟩ := z
 refine BC [5, 0, 1, 0] rfl ?_ ?_ <;> intro c
 ·refine CK [5, 1, 0] O ?_
  refine A5 (BE (i := 1) O) ?_
  refine A5 (Fg 6) ?_
  refine BP (A9 [0] O (Bg [1] [3] O O ⟨by rw [NX (dQ hz c)]; rfl, rfl⟩))
 refine E2 [0] [11] O ?_
 refine Bb [6, 3, 0] O ?_
 refine A3 O (fun _ => BF O O (gy ds zn h1.env) O) Aw ?_
 refine Bb [4] O ?_
 refine Ge [] O O (Az Ie O) Ap fun b10 => ⟨AB, Aw, ?_⟩
 refine Dj [3, 0, 1] O (CI [0] 5 [4, 9, 10, 11] 40 ((!((Co ds zn).2.2)) || (decide (((Co ds zn).2.1 : Int) < (0 : Int)))) O O ?_ ?_)
 ·refine Bc [3] 37 rfl rfl ?_ ?_ <;> intro g
  ·exact CT [3] O
  exact CT [3] O
 refine BC [0] rfl ?_ ?_ <;> intro c1
 ·have hcc := c1
  refine CK [5, 2, 0] O ?_
  refine A5 (BE (i := 2) O) ?_
  refine A5 (Fg 6) ?_
  refine BP (A9 [0] O (Bg [2] [4] O O ⟨by rw [NX (fM hz (by simpa using c) hcc)]; rfl, rfl⟩))
 have hcc : (Co ds zn).2.2 = true ∧ ¬ (Co ds zn).2.1 < 0 := ⟨c1.1, by omega⟩
 have hfd := aj h1 hcc.1 hcc.2
 have hfr := Ld hfd.1 hfd.2.2.1 hfd.2.2.2 hfd.2.1.1
 have hfx := hfd.2.1
 refine A2 [1] O (Ax (i := 0) GC O O (B5 _)) ?_
 obtain ⟨x, hx⟩ := A1 (l := ((Co ds zn).1).ctors) (i := ((Co ds zn).2.1 : Int).toNat) Au
 have hal := JB x.type
 have hxs := (hfd.1.cs _ (List.mem_of_getElem? hx)).ty
 refine A2 [1] O (A0 Km O O Au (Gr hx) (Ei _)) ?_
 refine A2 [1] O (Dh CN O (GW _) (A7 _)) ?_
 refine CQ [0] O (ea x.type hxs.nd hxs.sz) ?_
 refine Bp [3] O (Az Ba O) fun b14 => ?_
 refine CA [3, 0, 1] O O (A8 _) ?_
 refine A2 [1] O (Ax (i := 1) Dz O O (Cr _)) ?_
 refine CA [1] O O (A8 _) ?_
 refine A2 [0] O (F7 O O) ?_
 refine BC [1] rfl ?_ ?_ <;> intro c2
 ·refine CK [5, 3, 0] O ?_
  refine A5 (BE (i := 3) O) ?_
  refine A5 (Fg 6) ?_
  refine BP (A9 [0] O (Bg [3] [5] O O ⟨by rw [NX (fX hz (by simpa using c) hcc.1 hcc.2 (by rw [Sc hx hfx.1]; exact c2))]; rfl, rfl⟩))
 have hl3 := c2
 refine E2 [0] [] O ?_
 refine Bb [4, 1] O ?_
 refine CF (j := 1) O O O (fun H i hi => Ax (i := i) Dz O hi (Cr _)) AB Aw ?_
 refine A3 O (fun _ => Cn (lo := (((Co ds zn).1).fixed : Int).toNat) BS O (CW (Bd _)) ⟨_, pI Au⟩ O AZ (Nat.le_refl _) (MR ((Ay t).2) ((((Co ds zn).1).fixed : Int).toNat))) Aw ?_
 refine Dj [4, 3, 1] O (A9 [0] O (Bg [3] [5] O O ⟨by rw [R6 (lE hz (by simpa using c) hcc.1 hcc.2 (by rw [Sc hx hfx.1]; exact c2))], rfl⟩))
theorem qH : ∀ (b0 : Nat) (x : G3) (nm : ByteArray), BL Tryz.prog 199 [.agg ((HY x).map .p), .ptr b0 0] [.box b0 [.p (.str nm)]] (Gm (.p (.bool (x.ctor.toList == nm.toList))) [.box b0 [.p (.str nm)]]) := by
 intro b0 x nm
 refine DI Tryz.func199 ?_
 refine CG [0] O O fun b2 => ?_
 refine A2 [2] O (Ax (i := 0) N7 O O (HQ _)) ?_
 refine A2 [1, 1] O (Gs O O) ?_
 refine A9 [1] O (Bg [] [1] O O ⟨O, O⟩)
theorem th : ∀ (b0 : Nat) (nm : ByteArray) (l : List G3), (l.length < 2000000) → BL Tryz.prog 198 [.p (.lst (MU l)), .fn (.func 199) [] [.ptr b0 0]] [.box b0 [.p (.str nm)]] (Gm (.p (I (N0 nm l 0))) [.box b0 [.p (.str nm)]]) := by
 intro b0 nm l h1
 refine DI Tryz.func198 ?_
 refine CA [2] O O (Gt _) ?_
 refine GG (α := Nat) [1] [0, 1, 7] [0] (fun i => [(8, .p (I (i : Int)))]) (fun _ => []) (fun i => l.length - i) (fun i => i ≤ l.length ∧ (N0 nm (l.drop i) (i : Int) = N0 nm l 0)) 0 O O O (⟨by omega, rfl⟩) ?_
 rintro i hC
 try simp only at hC
 obtain ⟨hi, hC⟩ := hC
 refine BC [1] rfl ?_ ?_ <;> intro c
 ·refine D7 [5] l i O O O (tX _) (fun x hx => ?_)
  refine A2 [1] O (Bj [0] O (.inr O) (qH b0 x nm) ⟨_, _, O, O, O⟩ As O (.inl O)) ?_
  refine BC [0] rfl ?_ ?_ <;> intro c1
  ·refine A9 [2] O (Bg [] [0] O O ⟨pI (by rw [← hC, qm hx (by simpa using c1)]), O⟩)
  exact FR [2] 0 (i + 1) O (⟨by omega, by rw [← hC, uL hx (by simpa using c1)]; rfl⟩)
 refine DF [0] O ?_
 refine A9 [1] O (Bg [] [0] O O ⟨pI (by rw [← hC, List.drop_eq_nil_of_le Au]; rfl), O⟩)
theorem iL:∀(t:FY) (nm:ByteArray),(t.branches.length<2000000)→En Tryz.prog 185 [.agg ((EC t).map .p),.p (.str nm)] (.tup [.agg ((EC ((ng nm t.branches).1)).map .p),.p (.bool ((ng nm t.branches).2))]):=by
 intro t nm h1;refine DI Tryz.func185 (CG [0] O O fun b2=>CG [0] O O fun b3=>Bp [0] O (Az VP O) fun b4=>A2 [2] O (Ax (i:=2) IB O O (CC _)) (A2 [1] O (Bj [1] O (.inl ⟨O,O,O⟩) (th b3 nm t.branches h1) ⟨_,_,O,O,O⟩ As O (.inl O)) ?_));refine Bc [4] 13 rfl rfl ?_ ?_<;>intro g
 ·have hbn:=j6 (by simpa using g);refine ID [7] O O (fun c=>?_) (fun c=>by cases c);refine CK [3,0,0] O (A5 (BE (i:=0) O) ?_);refine BP (A9 [0] O (Bg [0] [] O O ⟨by rw[mR hbn];rfl,rfl⟩))
 obtain⟨bx,hbx,hbr⟩:=sS (nm:=nm) (l:=t.branches) (by simpa using g);refine A2 [1] O (Ax (i:=2) IB O O (CC _)) (A2 [1] O (A0 RH O O Au (IE hbx) (EX _)) (A2 [1] O (DQ u7 O (HF _)) ?_));refine BC [1] rfl ?_ ?_<;>intro c
 ·refine CK [3,0,0] O (A5 (BE (i:=0) O) ?_);refine BP (A9 [0] O (Bg [0] [] O O ⟨by rw[mR (by rw[hbr,if_pos (by simpa using c)])];rfl,rfl⟩))
 refine A2 [1] O (Ax (i:=2) IB O O (CC _)) (A2 [1] O (A0 RH O O Au (IE hbx) (EX _)) (A2 [1] O (Dh LM O (Gf _) (Ds _)) ?_));refine A9 [2,0,1] O (Bg [0] [] O O ⟨by rw[j0 (by rw[hbr,if_neg (by simpa using c)])];try rfl,rfl⟩)
theorem VR : ∀ (t : FY) (nm : ByteArray), (t.branches.length < 2000000) → En Tryz.prog 126 [.agg ((EC t).map .p), .p (.str nm)] (.tup [.agg ((EC ((aN nm t.branches).1)).map .p), .p (.bool ((aN nm t.branches).2))]) := by
 intro t nm h1
 refine DI Tryz.func126 ?_
 refine CG [0] O O fun b2 => ?_
 refine Bp [0] O (Az VP O) fun b4 => ?_
 refine GG (α := Nat) [2] [1, 2, 4] [0, 1] (fun i => [(6, .p (I (i : Int)))]) (fun _ => []) (fun i => t.branches.length - i) (fun i => i ≤ t.branches.length ∧ (aN nm (t.branches.drop i) = aN nm t.branches)) 0 O O O (⟨by omega, rfl⟩) ?_
 rintro i hC
 try simp only at hC
 obtain ⟨hi, hC⟩ := hC
 refine A2 [2] O (Ax (i := 1) IB O O (CC _)) ?_
 refine CA [0] O O (Gt _) ?_
 refine BC [1] rfl ?_ ?_ <;> intro c
 ·refine A2 [1] O (Ax (i := 1) IB O O (CC _)) ?_
  refine D7 [1] t.branches i O O O (tX _) (fun x hx => ?_)
  refine A2 [1] O (DQ N7 O (HQ _)) ?_
  refine A2 [1] O (Gs O O) ?_
  refine BC [0] rfl ?_ ?_ <;> intro c1
  ·refine E2 [0] [] O ?_
   refine A3 O (fun _ => BG df O O) Aw ?_
   refine CF (j := 1) O O O (fun H i hi => Ax (i := i) IB O hi (CC _)) AB Aw ?_
   refine A3 O (fun _ => Bh O) Aw ?_
   refine A3 O (fun _ => A0 RH O O Au (IE hx) (EX _)) Aw ?_
   refine A3 O (fun _ => DN r7 O O) Aw ?_
   refine A3 O (fun _ => Dh LM O (Gf _) (Ds _)) Aw ?_
   refine A3 O (fun _ => BG df O O) Aw ?_
   refine CF (j := 1) O O O (fun H i hi => Ax (i := i) IB O hi (CC _)) AB Aw ?_
   refine A3 O (fun _ => Bh O) Aw ?_
   refine A3 O (fun _ => A0 RH O O Au (IE hx) (EX _)) Aw ?_
   refine A3 O (fun _ => DN r7 O O) Aw ?_
   refine A3 O (fun _ => DQ u7 O (HF _)) Aw ?_
   refine Dj [3, 0, 1] O (A9 [0] O (Bg [0] [] O O ⟨by rw [← hC, nO hx, if_pos (Gk (by simpa using c1))]; try rfl, rfl⟩))
  exact FR [3] 0 (i + 1) O (⟨by omega, by rw [← hC, nO hx, if_neg (fun e => by simp [e] at c1)]⟩)
 refine DF [0] O ?_
 refine CK [3, 0, 0] O ?_
 refine A5 (BE (i := 0) O) ?_
 refine BP (A9 [0] O (Bg [0] [] O O ⟨by rw [← hC, List.drop_eq_nil_of_le Au]; rfl, rfl⟩))
theorem Fv : ∀ (b : Nat) (c : Dn) (t : Tm) (e : Int), (Nd t) → BL Tryz.prog 72 [.ptr b 0, .agg ((BD t).map .p), .p (I e)] [.box b ((HX c).map .p)] (Gm (.agg ((BD t).map .p)) [.box b ((HX (c.result t e)).map .p)]) := by
 intro b c t e h1
 refine DI Tryz.func72 ?_
 refine CG [0] O O fun b4 => ?_
 refine Bp [0] O (Az Ba O) fun b6 => ?_
 refine A2 [4, 2] O (Eg O O) ?_
 refine E2 [3, 2, 0] [] O ?_
 refine Bb [5, 2, 1] O ?_
 refine A3 O (fun _ => BF O O (Nv _ t (Nat.le_refl _) h1) O) Aw ?_
 refine A3 O (fun _ => Eg O O) Aw ?_
 refine Dj [3, 2, 0] O (A2 [3, 1] O (Bj [2] O (.inl ⟨O, O, O⟩) (qL b (Dn.mk (wr ((c.steps : Int) + (1 : Int))) (wr ((c.nodes : Int) + (FG t : Int))) c.forms c.limit c.over) t e h1) ⟨_, _, O, O, O⟩ As O (.inl O)) ?_)
 refine A9 [2, 1, 0, 1] O (Bg [0] [2] O O ⟨O, O⟩)
def xN (ds:List B8) (n:Nat):Prop:=∀(b:Nat) (t:Tm) (c c2:Dn) (r:Tm),FM ds DK n c t= .ok (r,c2)→BL Tryz.prog 61 [.p (.lst (List.map B1 ds)),.agg ((BD t).map .p),.ptr b 0] [.box b ((HX c).map .p)] (Gm (.agg ((BD r).map .p)) [.box b ((HX c2).map .p)])
theorem _root_.Go.AW {α:Prop}(h:α:=by first | omega | (simp_all;done) | (simp_all;omega)):α:=h
theorem _root_.Go.AI {α:Prop}(h:α:=by first | (simp only[List.length_map,A8];omega) | (simp_all;done) | (simp_all;omega)):α:=h
theorem _root_.Go.Aa {α:Prop}(h:α:=by simp only[A8,List.length_nil];omega):α:=h
theorem nK:∀(n k:Nat) (ds:List B8) (t:FY) (vs:List Tm) (b:Nat) (c c2:Dn) (q:Option (Tm×List Tm)×Tm),(xN ds n)→(MC ds)→(Wq t vs)→(EA ds DK (FM ds DK n) k t vs BN c= .ok (q,c2))→BL Tryz.prog 120 [.p (.lst (List.map B1 ds)),.agg ((EC t).map .p),.p (.lst (A6 vs)),.ptr b 0] [.box b ((HX c).map .p)] (Gm (.tup [.agg ((BD (YI q)).map .p),.p (.lst (A6 (aO q))),.p (.bool q.1.isSome),.agg ((BD q.2).map .p)]) [.box b ((HX c2).map .p)]):=by
 intro n k ds t vs b c c2 q hW h2 h3 h4;have h3l:=h3.len;refine DI Tryz.func120 (CG [0] O O fun b5=>Bp [0] O (Az Ba O) fun b8=>Bp [2] O (Az Ba O) fun b11=>DS [1] O (BH (DH (t:=12) (sz:=5) O) (BW (DS [2] O ?_))));refine ET O O (Bi (i:=0) (rows':=A6 vs) BS BS Ba O O O O O O (Bd _) Aa (Hj [] vs)) fun o cp=>BW (Bp [2] O (Az Ba O) fun b13=>?_);refine GG (α:=Nat×FY×List Tm×Tm×Dn×Option Nat×Nat) [1,0,0] [0,3,5,8,11,13] [0,1,2,3,4,5] (fun(m,w,us,l,d,o1,cp1)=>[(12,.vs o1 (A6 us).length cp1)]) (fun(m,w,us,l,d,o1,cp1)=>[(0,.box b13 ((BD l).map .p)),(1,.vec o1 5 (A6 us) cp1),(4,.box b5 ((EC w).map .p)),(5,.box b ((HX d).map .p))]) (fun(m,w,us,l,d,o1,cp1)=>m) (fun(m,w,us,l,d,o1,cp1)=>EA ds DK (FM ds DK n) m w us l d= .ok (q,c2)∧Wq w us) ⟨k,t,vs,BN,c,o,cp⟩ O O O (⟨h4,h3⟩) ?_ (e1:=wl (on (O)) (wl (oe O) (wl (oe O) (wl (oe O) (wl (oe O) (wl (oe O) (Ih)))))));rintro⟨m,w,us,l,d,o1,cp1⟩ hC
 try simp only at hC
 obtain⟨hC,hL⟩:=hC;obtain⟨k1,rfl⟩:=iu hC Av;refine A2 [1] O (Ax (i:=4) Dz O O (HW _)) ?_;refine BC [1] rfl ?_ ?_<;>intro c1
 ·have hk1:=c1;refine CI [0] 5 [0,3,5,8,11,12,13] 41 (((decide ((w.var:Int)<(0:Int)))||(decide ((w.var:Int)≥((us.length:Nat):Int))))||d.over) O O ?_ ?_
  ·refine A2 [1] O (Ax (i:=4) Dz O O (DD _)) ?_;refine Bc [2] 29 rfl rfl ?_ ?_<;>intro g
   ·exact CT [12] O
   refine A2 [1] O (Ax (i:=4) Dz O O (DD _)) (A2 [1] O (JO BS O (A8 _)) ?_);refine Bc [3] 36 rfl rfl ?_ ?_<;>intro g1
   ·exact CT [5] O
   exact CT [5,5] O
  refine BC [0] rfl ?_ ?_<;>intro c3
  ·have hb:=(KT hk1 (by simpa [or_assoc,DK] using c3)).symm.trans hC;cases hb;refine E2 [0] [] O (Dj [6,0,3,0,2,1] O (CK [0] O ?_));refine A5 (BE (i:=3) O) (A5 (Fg 9) (BP (A9 [0] O (Bg [3,2] [5] O O ⟨O,O⟩))))
  have hcb:=c3;refine A2 [3] O (Ax (i:=4) Dz O O (DD _)) (DS [0] O (I4 (i:=1) O Aj fun b1 hb=>?_));subst hb;refine BW (A2 [0] O (CJ BS O O Au AI) ?_);obtain⟨y,hy⟩:=A1 (l:=us) (i:=(w.var:Int).toNat) AW;refine A2 [0] O (Dl (i:=1) CN O O (BO hy)) ?_;obtain⟨⟨r,d2⟩,hr1,hr2,hr3⟩:=HA ((L4 hk1 (by simpa [or_assoc,and_assoc,DK] using hcb) hy).symm.trans hC);refine A2 [1] O (Bj [5] O (.inl ⟨O,O,O⟩) (hW b y (Dn.mk d.steps d.nodes d.forms d.limit d.over) d2 r hr1) ⟨_,_,O,O,O⟩ As O (.inl O)) (CQ [3,0,1,0] O (PX ds r h2 hr2) (Bp [5] O (Az Ie O) fun b14=>?_));refine BC [6,0,1] rfl ?_ ?_<;>intro c4
  ·have hcn:=Ng c4;rw[G7 hcn] at hr3;cases hr3;refine E2 [0] [] O (Dj [6,1,4,0,3,1] O (CK [0] O ?_));refine A5 (BE (i:=4) O) (A5 (Fg 9) (BP (A9 [0] O (Bg [4,3] [6] O O ⟨O,O⟩))))
  have hcs:=MD c4;have hcf:=Fy hcs;have hlo:=hcf.lo;have hhi:=hcf.hi;have hfl:=JD h2 hcs;refine E2 [0] [11] O (Bb [2,5] O (CF (j:=0) O O O (fun H i hi=>Ax (i:=i) GC O hi (B5 _)) AB Aw (A3 O (fun _=>Bh O) Aw ?_)));obtain⟨x,hx⟩:=A1 (l:=((Bo ds r).1).ctors) (i:=((Bo ds r).2.1:Int).toNat) Au;refine A3 O (fun _=>A0 Km O O Au (Gr hx) (Ei _)) Aw (A3 O (fun _=>DN UG O O) Aw (A3 O (fun _=>DQ N7 O (GR _)) Aw (A3 O (fun _=>BF O O (VR w x.name hL.tin.bl) O) Aw (Bb [3] O (Ge [] O O (Az VP O) Ap fun b18=>⟨AB,Aw,?_⟩)))));refine Dj [2,0,1] rfl (BC [2] rfl ?_ ?_)<;>intro c5
  ·have hbn:=Zi c5;rw[JK hcs (by rw[EM,CO hx];exact hbn)] at hr3;cases hr3;refine E2 [0] [] O (Dj [6,2,5,0,4,1] O (CK [0] O ?_));refine A5 (BE (i:=5) O) (A5 (Fg 9) (BP (A9 [0] O (Bg [5,4] [7] O O ⟨O,O⟩))))
  have hbs:=YM c5;rw[JM hcs (by rw[EM,CO hx];exact hbs)] at hr3;exact DS [4,0,6,1] O (ET O O (Bi (i:=3) (rows':=A6 ((Bo ds r).2.2.1)) BS BS Ba O O O O O O (Bd _) (by have:=hL.len;simp only[A8,List.length_append];omega) (Hj us ((Bo ds r).2.2.1))) fun o2 cp2=>BW (FR [1] 2 ⟨k1,(aN x.name w.branches).1,us++(Bo ds r).2.2.1,r,d2,o2,cp2⟩ O (⟨hr3,hL.next h2 hr2 hcs hbs⟩)))
 have hk1:=c1;rw[Is hk1] at hC;cases hC;refine DF [0] O (A2 [1] O (Bq (i:=4) CN O O (Ff _) (A7 _)) (CK [6,3,1,2,0] O (A5 (CL (i:=1) [12,85,9] O (DA ⟨O,O,O,Aw⟩)) (A5 (BE (i:=1) O) (BP (A9 [0] O (Bg [2,1] [4] O O ⟨O,O⟩)))))))
theorem fA : ∀ (a b : CX), (OA a) → (OA b) → En Tryz.prog 210 [.agg ((B4 a).map .p), .agg ((B4 b).map .p)] (.agg ((B4 (Ja a b)).map .p)) := by
 intro a b h1 h2
 have hl := h1.vars
 have hl2 := h2.vars
 simp only [Db] at hl hl2
 refine DI Tryz.func210 ?_
 refine CG [0] O O fun b2 => ?_
 refine CG [0] O O fun b3 => ?_
 refine Bp [0] O (Az FC O) fun b4 => ?_
 refine A2 [4, 2, 1] O (F7 O O) ?_
 refine Bp [1] O (Az FC O) fun b5 => ?_
 refine DS [1, 0, 0] O ?_
 refine BH (EV (i := 0) O (Ux (aw (we O) (aw (Iv) (HT))))) ?_
 refine BH (H6 (sz := 2)) ?_
 refine BW (GG (α := Nat × Nat × List B6 × Int × Option Nat × Nat) [3] [2, 3, 4, 5] [0, 1, 2, 3, 4] (fun (i, k, vs, m, o, cp) => [(6, .p (I (i : Int))), (7, .p (I (k : Int))), (8, .p (I m))]) (fun (i, k, vs, m, o, cp) => [(0, .vec o 2 (List.map Ey vs) cp), (1, .box b5 [.p (I (max (a.const : Int) (b.const : Int))), .vs o (List.map Ey vs).length cp])]) (fun (i, k, vs, m, o, cp) => (a.vars.length - i) + (b.vars.length - k)) (fun (i, k, vs, m, o, cp) => Of a.vars b.vars i k vs m) ⟨0, 0, [], 0, none, 0⟩ O O O (Of.zero) ?_)
 rintro ⟨i, k, vs, m, o, cp⟩ hC
 try simp only at hC
 have hi0 := hC.hi
 have hk0 := hC.hk
 refine CI [0] 4 [2, 3, 4, 5, 6, 7, 8] 27 ((decide (((i : Int) : Int) < ((a.vars.length : Nat) : Int))) || (decide (((k : Int) : Int) < ((b.vars.length : Nat) : Int)))) O O ?_ ?_
 ·refine CA [3, 4] O O (List.length_map _) ?_
  refine Bc [2] 21 rfl rfl ?_ ?_ <;> intro g
  ·exact CT [6] O
  refine CA [3, 3] O O (List.length_map _) ?_
  exact CT [2] O
 refine BC [0] rfl ?_ ?_ <;> intro c
 ·refine Bp [1] O (Az HH O) fun b9 => ?_
  refine CI [1, 0, 0] 9 [2, 3, 4, 5, 6, 7, 8, 9] 53 (Rm a.vars b.vars i k) O O ?_ ?_
  ·refine E2 [0] [] O ?_
   refine Bb [3, 4] O ?_
   refine A3 O (fun _ => Ct DC O (List.length_map _)) Aw ?_
   refine Bb [2] O ?_
   refine Da 59 O (fun g => ?_) (fun g => ?_)
   ·(try simp only [sd, se] at g)
    refine CY tab 22 [] O ?_
    exact Cu (CT [0] O (hr := (by first | exact pB (Pk Au) | exact pB (SG Au Au) | exact pB (PI hx hx1))))
   (try simp only [sd, se] at g)
   refine Bb [3, 5] O ?_
   refine Bx O (fun _ => Ct DC O (List.length_map _)) Aw ?_
   refine Bb [2] O ?_
   refine Da 65 O (fun g1 => ?_) (fun g1 => ?_)
   ·(try simp only [sd, se] at g1)
    refine Bb [3, 5] O ?_
    obtain ⟨x, hx⟩ := A1 (l := a.vars) (i := i) Au
    refine Bx O (fun _ => A0 DC O O Au (DT hx) (O)) Aw ?_
    refine Bb [5, 4] O ?_
    obtain ⟨x1, hx1⟩ := A1 (l := b.vars) (i := k) Au
    refine Bx O (fun _ => A0 DC O O Au (DT hx1) (O)) Aw ?_
    refine CY tab 6 [] O ?_
    exact Cu (CT [0] O (hr := (by first | exact pB (Pk Au) | exact pB (SG Au Au) | exact pB (PI hx hx1))))
   (try simp only [sd, se] at g1)
   refine CY tab 16 [] O ?_
   exact Cu (CT [0] O (hr := (by first | exact pB (Pk Au) | exact pB (SG Au Au) | exact pB (PI hx hx1))))
  refine BC [0] rfl ?_ ?_ <;> intro c1
  ·have hi := pw c1 (by simpa using c)
   refine D7 [3, 5] a.vars i O O O (H5 (f := Ey) fun _ => O) (fun x hx => ?_)
   refine A2 [8, 0, 1, 0] O (F7 O O) ?_
   refine A2 [4, 2, 0] O (BJ DC HH O O O O O) ?_
   refine DS [0] O ?_
   refine ET O O (Bi (i := 1) (rows' := List.map Ey [(B6.mk x.index x.plus)]) DC DC HH O O O O O O (G6 _) (by have := hC.ln; have := hC.hi; have := hC.hk; simp only [List.length_map, List.length_append, List.length_cons, List.length_nil]; omega) (Fx (f := Ey) vs [(B6.mk x.index x.plus)])) fun o1 cp1 => ?_
   exact BW (FR [2, 2, 0] 1 ⟨i + 1, k, vs ++ [(B6.mk x.index x.plus)], max (m : Int) (x.plus : Int), o1, cp1⟩ O ((by first | exact hC.left hx c1 | exact hC.right hx c1 c2 | exact hC.both hx hx1 c1 c2)))
  have hk := qh c1 hC.hk
  refine CI [0] 12 [2, 3, 4, 5, 6, 7, 8, 9] 88 (ZK a.vars b.vars i k) O O ?_ ?_
  ·refine E2 [0] [] O ?_
   refine Bb [3, 5] O ?_
   refine A3 O (fun _ => Ct DC O (List.length_map _)) Aw ?_
   refine Bb [2] O ?_
   refine Da 94 O (fun g => ?_) (fun g => ?_)
   ·(try simp only [sd, se] at g)
    refine CY tab 15 [] O ?_
    exact Cu (CT [0] O (hr := (by first | exact pB (UY Au) | exact pB (No hx1 hx) | exact pB (No hx hx1))))
   (try simp only [sd, se] at g)
   refine Bb [3, 4] O ?_
   obtain ⟨x, hx⟩ := A1 (l := b.vars) (i := k) Au
   refine Bx O (fun _ => A0 DC O O Au (DT hx) (O)) Aw ?_
   refine Bb [5, 5] O ?_
   obtain ⟨x1, hx1⟩ := A1 (l := a.vars) (i := i) Au
   refine Bx O (fun _ => A0 DC O O Au (DT hx1) (O)) Aw ?_
   refine CY tab 5 [] O ?_
   exact Cu (CT [0] O (hr := (by first | exact pB (UY Au) | exact pB (No hx1 hx) | exact pB (No hx hx1))))
  refine BC [0] rfl ?_ ?_ <;> intro c2
  ·refine D7 [3, 4] b.vars k O O O (H5 (f := Ey) fun _ => O) (fun x hx => ?_)
   refine A2 [8, 0, 1, 0] O (F7 O O) ?_
   refine A2 [4, 2, 0] O (BJ DC HH O O O O O) ?_
   refine DS [0] O ?_
   refine ET O O (Bi (i := 1) (rows' := List.map Ey [(B6.mk x.index x.plus)]) DC DC HH O O O O O O (G6 _) (by have := hC.ln; have := hC.hi; have := hC.hk; simp only [List.length_map, List.length_append, List.length_cons, List.length_nil]; omega) (Fx (f := Ey) vs [(B6.mk x.index x.plus)])) fun o1 cp1 => ?_
   exact BW (FR [2, 2, 0] 1 ⟨i, k + 1, vs ++ [(B6.mk x.index x.plus)], max (m : Int) (x.plus : Int), o1, cp1⟩ O ((by first | exact hC.left hx c1 | exact hC.right hx c1 c2 | exact hC.both hx hx1 c1 c2)))
  have hi := ou c2 hC.hi
  refine E2 [0] [] O ?_
  refine Bb [3, 5] O ?_
  obtain ⟨x, hx⟩ := A1 (l := a.vars) (i := i) Au
  refine A3 O (fun _ => A0 DC O O Au (DT hx) (O)) Aw ?_
  refine Bb [5, 5] O ?_
  refine A3 O (fun _ => A0 DC O O Au (DT hx) (O)) Aw ?_
  refine Bb [5, 4] O ?_
  obtain ⟨x1, hx1⟩ := A1 (l := b.vars) (i := k) Au
  refine A3 O (fun _ => A0 DC O O Au (DT hx1) (O)) Aw ?_
  refine Bb [2] O ?_
  refine A3 O (fun _ => F7 O O) Aw ?_
  refine Dj [2, 0, 0] O (A2 [9, 0] O (F7 O O) ?_)
  refine A2 [4, 2, 0] O (BJ DC HH O O O O O) ?_
  refine DS [0] O ?_
  refine ET O O (Bi (i := 1) (rows' := List.map Ey [(B6.mk x.index (max (x.plus : Int) (x1.plus : Int)))]) DC DC HH O O O O O O (G6 _) (by have := hC.ln; have := hC.hi; have := hC.hk; simp only [List.length_map, List.length_append, List.length_cons, List.length_nil]; omega) (Fx (f := Ey) vs [(B6.mk x.index (max (x.plus : Int) (x1.plus : Int)))])) fun o1 cp1 => ?_
  exact BW (FR [2, 2, 0] 1 ⟨i + 1, k + 1, vs ++ [(B6.mk x.index (max (x.plus : Int) (x1.plus : Int)))], max (m : Int) (max (x.plus : Int) (x1.plus : Int) : Int), o1, cp1⟩ O ((by first | exact hC.left hx c1 | exact hC.right hx c1 c2 | exact hC.both hx hx1 c1 c2)))
 refine DF [0] O ?_
 refine CI [0] 17 [4, 5] 135 ((decide (((vs.length : Nat) : Int) > (0 : Int))) && (decide ((max (a.const : Int) (b.const : Int) : Int) ≤ (m : Int)))) O O ?_ ?_
 ·refine A2 [2, 1] O (JO DC O (List.length_map _)) ?_
  refine Bc [2] 130 rfl rfl ?_ ?_ <;> intro g
  ·exact CT [5, 1] O
  exact CT [5] O
 refine BC [0] rfl ?_ ?_ <;> intro c1
 ·refine DS [0] O ?_
  refine BH (Cf (i := 0) (j := 1) (q := 1) [] O O O (DA Aw)) ?_
  refine BW (A9 [4, 0, 0, 0, 1, 0] O (Bg [1] [] O O ⟨by rw [yg (hC.fin Au) Au c1.2]; rfl, rfl⟩))
 refine DS [0] O ?_
 refine BH (Cf (i := 0) (j := 1) (q := 1) [] O O O (DA Aw)) ?_
 refine BW (A9 [2, 0, 1, 0] O (Bg [1] [] O O ⟨by rw [yf (hC.fin Au) Au]; rfl, rfl⟩))
theorem og : ∀ (l : CX) (ps : List CX), (B0 l = true) → (ps.length < Db) → (∀ p ∈ ps, B0 p = true) → En Tryz.prog 202 [.agg ((B4 l).map .p), .p (.lst (List.map B4 ps)), .p (.bool false)] (.tup [.agg ((B4 ((Hr ps ⟨l.const, []⟩ l.vars).1)).map .p), .p (I ((Hr ps ⟨l.const, []⟩ l.vars).2))]) := by
 intro l ps h1 h2 h3
 have hL := Jx.of h1
 have hl := hL.len
 simp only [Db] at h2
 refine DI Tryz.func202 ?_
 refine CG [0] O O fun b3 => ?_
 refine Bp [0] O (Az FC O) fun b6 => ?_
 refine CQ [3, 1] O (jI l.const) ?_
 refine Bp [0] O (Az FC O) fun b8 => ?_
 refine GG (α := Nat × CX) [2, 0, 1] [1, 2, 3, 6, 8] [0, 1, 2] (fun (i, q) => [(9, .p (I (i : Int)))]) (fun (i, q) => [(0, .box b8 ((B4 q).map .p))]) (fun (i, q) => l.vars.length - i) (fun (i, q) => i ≤ l.vars.length ∧ (Jx q ∧ Hr ps q (l.vars.drop i) = Hr ps ⟨l.const, []⟩ l.vars)) ⟨0, (⟨l.const, []⟩ : CX)⟩ O O O (⟨by omega, Jx.num hL.c, rfl⟩) ?_
 rintro ⟨i, q⟩ hC
 try simp only at hC
 obtain ⟨hi, hC⟩ := hC
 refine CA [3, 2] O O (List.length_map _) ?_
 refine BC [1] rfl ?_ ?_ <;> intro c
 ·obtain ⟨x, hx⟩ := A1 (l := l.vars) (i := i) Au
  have hv := L8 h1 hx
  refine A2 [3, 2] O (A0 DC O O Au (DT hx) (O)) ?_
  refine Bp [1] O (Az HH O) fun b10 => ?_
  refine ID [5, 0, 1, 0] O O (fun c1 => by cases c1) (fun c1 => ?_)
  refine A2 [1, 0] O (BJ DC HH O O O O O) ?_
  refine Bp [1] O (Az FC O) fun b12 => ?_
  refine CI [1, 0, 0] 10 [1, 2, 3, 6, 8, 9, 10, 11, 12] 49 (((decide ((x.index : Int) < (0 : Int))) == false) && (decide ((x.index : Int) < ((ps.length : Nat) : Int)))) O O ?_ ?_
  ·refine A2 [4, 1] O (Tp wz O O) ?_
   refine Bc [1] 44 rfl rfl ?_ ?_ <;> intro g
   ·refine CA [2] O O (List.length_map _) ?_
    exact CT [2] O
   exact CT [5] O
  refine BC [0] rfl ?_ ?_ <;> intro c2
  ·refine E2 [0] [10] O ?_
   refine Bb [2] O ?_
   obtain ⟨x1, hx1⟩ := A1 (l := ps) (i := (x.index : Int).toNat) Au
   have hv := L8 h1 hx
   refine A3 O (fun _ => A0 KX O O Au (Pa hx1) (E3 _)) Aw ?_
   refine Bb [3, 1] O ?_
   refine A3 O (fun _ => BF O O (pL x1 x.plus (Jx.of (h3 _ (List.mem_of_getElem? hx1))).nd) O) Aw ?_
   refine Bb [3] O ?_
   refine Ge [] O O (Az FC O) Ap fun b13 => ⟨AB, Aw, ?_⟩
   refine Dj [2, 0, 1] rfl (BC [2] rfl ?_ ?_) <;> intro c3
   ·refine CK [4, 4, 0] O ?_
    refine A5 (BE (i := 4) O) ?_
    refine BP (A9 [0] O (Bg [4] [] O O ⟨by rw [show Hr ps ⟨l.const, []⟩ l.vars = _ from hC.2.symm.trans (yb hx c2.1 c2.2 hx1 c3)]; rfl, rfl⟩))
   refine CQ [4, 0, 1, 1, 3, 1] O (fA q ((F5 x1 x.plus).1) hC.1.nd (by first | exact (Jx.one hv).nd | exact (Jx.plus (h3 _ (List.mem_of_getElem? hx1)) hv.1.1 hv.1.2 c3).nd)) ?_
   exact FR [4, 3, 1] 3 ⟨i + 1, Ja q ((F5 x1 x.plus).1)⟩ O (⟨by omega, (by first | exact ⟨hC.1.join (Jx.plus (h3 _ (List.mem_of_getElem? hx1)) hv.1.1 hv.1.2 c3), (yE hx c2.1 c2.2 hx1 c3).symm.trans hC.2⟩ | exact ⟨hC.1.join (Jx.one hv), (wq hx Au).symm.trans hC.2⟩ | exact ⟨hC.1.join (Jx.one hv), (wq hx (fun hh => by have := c2 hh.1; omega)).symm.trans hC.2⟩)⟩)
  refine CQ [2, 2, 0] O (fA q (CX.mk 0 [(B6.mk x.index x.plus)]) hC.1.nd (by first | exact (Jx.one hv).nd | exact (Jx.plus (h3 _ (List.mem_of_getElem? hx1)) hv.1.1 hv.1.2 c3).nd)) ?_
  exact FR [4, 2, 1] 2 ⟨i + 1, Ja q (CX.mk 0 [(B6.mk x.index x.plus)])⟩ O (⟨by omega, (by first | exact ⟨hC.1.join (Jx.plus (h3 _ (List.mem_of_getElem? hx1)) hv.1.1 hv.1.2 c3), (yE hx c2.1 c2.2 hx1 c3).symm.trans hC.2⟩ | exact ⟨hC.1.join (Jx.one hv), (wq hx Au).symm.trans hC.2⟩ | exact ⟨hC.1.join (Jx.one hv), (wq hx (fun hh => by have := c2 hh.1; omega)).symm.trans hC.2⟩)⟩)
 refine DF [0] O ?_
 refine A9 [3, 0, 1, 1] O (Bg [1] [] O O ⟨by rw [← hC.2, List.drop_eq_nil_of_le Au]; rfl, rfl⟩)
theorem jm:∀(l:CX) (ps:List CX),(OA l)→(ps.length<Db)→(∀p∈ps,OA p)→En Tryz.prog 188 [.agg ((B4 l).map .p),.p (.lst (List.map B4 ps))] (.tup [.agg ((B4 ((C4 l ps).1)).map .p),.p (I ((C4 l ps).2))]):=by
 intro l ps h1 h2 h3;have hl:=h1.vars;have hl2:=h2;simp only[Db] at hl hl2;refine DI Tryz.func188 (CG [0] O O fun b2=>Bp [0] O (Az FC O) fun b4=>CI [1] 1 [1,2,4] 13 ((!(B0 l))||(!(ps.all B0))) O O ?_ ?_)
 ·refine CQ [1,1] O (M7 l h1) ?_;refine Bc [2] 9 rfl rfl ?_ ?_<;>intro g
  ·exact CT [4] O
  exact CQ [1] O (YP ps h2 h3) (CT [2] O)
 refine BC [0] rfl ?_ ?_<;>intro c
 ·refine CK [3,0,0] O (A5 (BE (i:=0) O) ?_);refine BP (A9 [0] O (Bg [0] [] O O ⟨by rw[show C4 l ps=(GB,3) by rw[C4,if_pos (by simpa using c)]];rfl,rfl⟩))
 have hv:B0 l=true∧ps.all B0=true:=by simpa using c
 refine CQ [1,1] O (gq l h1) (CA [1] O O (List.length_map _) ?_);refine BC [1] rfl ?_ ?_<;>intro c1
 ·refine CK [3,0,0] O (A5 (BE (i:=0) O) ?_);refine BP (A9 [0] O (Bg [0] [] O O ⟨by rw[show C4 l ps=(GB,24) by rw[C4,if_neg (by simp[hv]),if_pos c1]];rfl,rfl⟩))
 refine CQ [2,1] O (og l ps hv.1 h2 (List.all_eq_true.1 hv.2)) ?_;refine A9 [4,0,1] O (Bg [0] [] O O ⟨by rw[show C4 l ps=Hr ps ⟨l.const,[]⟩ l.vars by rw[C4,if_neg (by simp[hv]),if_neg Au]];try rfl,rfl⟩)
theorem iK:∀(n:Nat) (t:Tm) (ps:List CX) (b:Nat) (er nd:Int),(size t≤n)→(Nd t)→(ps.length<Db)→(∀p∈ps,OA p)→BL Tryz.prog 162 [.ptr b 0,.agg ((BD t).map .p),.p (.lst (List.map B4 ps)),.p (.bool false)] [.box b [.p (I er),.p (I nd)]] (Gm (.agg ((BD ((JA ps er t).1)).map .p)) [.box b [.p (I ((JA ps er t).2)),.p (I nd)]]):=by
 intro n
 induction n with
 | zero=>intro t ps b er nd h;cases t;simp[size] at h
 | succ n ih =>
  intro t ps b er nd h1 h2 h3 h4;obtain⟨tk,ti,tn,tl,ts⟩:=t;simp only[size] at h1;have h2n:=h2;simp only[Nd,Db] at h2;refine DI Tryz.func162 (CG [0] O O fun b5=>Bp [0] O (Az Ba O) fun b8=>CK [2] O (A5 (DH (t:=9) (sz:=2) O) ?_));refine BP (GG (α:=Nat×List CX×Int×Option Nat×Nat) [0] [0,2,3,5,8] [0,1,2,3] (fun(i,ys,e,o,cp)=>[(9,.vs o (List.map B4 ys).length cp),(10,.p (I (i:Int)))]) (fun(i,ys,e,o,cp)=>[(0,.vec o 2 (List.map B4 ys) cp),(3,.box b [.p (I e),.p (I nd)])]) (fun(i,ys,e,o,cp)=>tl.length - i) (fun(i,ys,e,o,cp)=>i≤tl.length∧(ys.length=i∧(ys++(F4 ps e (tl.drop i)).1,(F4 ps e (tl.drop i)).2)=F4 ps er tl)) ⟨0,[],er,none,0⟩ O O O (⟨by omega,by simp⟩) ?_);rintro⟨i,ys,e,o,cp⟩ hC
  try simp only at hC
  obtain⟨hi,hl,hC⟩:=hC;refine CA [3,2] O O (List.length_map _) ?_;refine BC [1] rfl ?_ ?_<;>intro c
  ·refine D7 [3,2] tl i O O O (H5 E3) (fun x hx=>?_);refine CQ [2] O (jm x ps (h2.2.2.1 _ (List.mem_of_getElem? hx)) h3 h4) (Bp [3] O (Az FC O) fun b11=>?_);refine ID [3,0,1] O O (fun c1=>by cases c1) (fun c1=>?_);refine BC [2] rfl ?_ ?_<;>intro c2
   ·refine A2 [2] O (Bj [4] O (.inl ⟨O,O,O⟩) (aV b e nd ((C4 x ps).2)) ⟨_,_,O,O,O⟩ As O (.inl O)) (A2 [2,0] O (BJ KX FC O O O O O) (DS [0] O (ET O O (Bi (i:=1) (rows':=List.map B4 [(CX.mk (((C4 x ps).1).const) (((C4 x ps).1).vars))]) KX KX FC O O O O O O (Nl _) AD (Fx (f:=B4) ys [(CX.mk (((C4 x ps).1).const) (((C4 x ps).1).vars))])) fun o1 cp1=>?_)));exact BW (FR [4] 1 ⟨i+1,ys++[(C4 x ps).1],Gi e ((C4 x ps).2),o1,cp1⟩ O (⟨by omega,⟨by simp[hl],by rw[←hC,Cd hx];first | (simp[F4];done) | (simp[F4,cM,c2];done)⟩⟩))
   refine A2 [2,0] O (BJ KX FC O O O O O) (DS [0] O (ET O O (Bi (i:=1) (rows':=List.map B4 [(CX.mk (((C4 x ps).1).const) (((C4 x ps).1).vars))]) KX KX FC O O O O O O (Nl _) AD (Fx (f:=B4) ys [(CX.mk (((C4 x ps).1).const) (((C4 x ps).1).vars))])) fun o1 cp1=>?_));exact BW (FR [4] 1 ⟨i+1,ys++[(C4 x ps).1],e,o1,cp1⟩ O (⟨by omega,⟨by simp[hl],by rw[←hC,Cd hx];first | (simp[F4];done) | (simp[F4,cM,c2];done)⟩⟩))
  refine DF [0] O (DS [2] O (BH (CL (i:=0) [9,52] O (DA ⟨O,O,Aw⟩)) (BW (CK [3,1,0] O ?_))));refine A5 (DH (t:=13) (sz:=5) O) ?_;refine BP (GG (α:=Nat×List Tm×Int×Option Nat×Nat) [0] [0,2,3,5,8] [0,1,2,3] (fun(i,zs,e2,o1,cp1)=>[(13,.vs o1 (A6 zs).length cp1),(14,.p (I (i:Int)))]) (fun(i,zs,e2,o1,cp1)=>[(0,.vec o1 5 (A6 zs) cp1),(3,.box b [.p (I e2),.p (I nd)])]) (fun(i,zs,e2,o1,cp1)=>ts.length - i) (fun(i,zs,e2,o1,cp1)=>i≤ts.length∧(zs.length=i∧(zs++(HZ ps e2 (ts.drop i)).1,(HZ ps e2 (ts.drop i)).2)=HZ ps e ts)) ⟨0,[],e,none,0⟩ O O O (⟨by omega,by simp⟩) ?_);rintro⟨i,zs,e2,o1,cp1⟩ hC1
  try simp only at hC1
  obtain⟨hi,hl2,hC2⟩:=hC1;refine CA [3,2] O O (A8 _) ?_;refine BC [1] rfl ?_ ?_<;>intro c1
  ·refine D7 [5,2] ts i O O O (IH _) (fun x hx=>?_);refine A2 [3] O (Bj [3] O (.inl ⟨O,O,O⟩) (ih x ps b e2 nd (by have:=CU hx;omega) (DV h2.2.2.2.2.1 hx) h3 h4) ⟨_,_,O,O,O⟩ As O (.inl O)) ?_;generalize hz:(JA ps e2 x).1=z;obtain⟨zk,zi,zn,zl,zs1⟩:=z;refine A2 [0] O (BJ BS Ba O O O O O) (DS [0] O (ET O O (Bi (i:=0) (rows':=A6 [(.mk zk zi zn zl zs1:Tm)]) BS BS Ba O O O O O O (Bd _) AD (Hj zs [(.mk zk zi zn zl zs1:Tm)])) fun o2 cp2=>?_));exact BW (FR [4] 0 ⟨i+1,zs++[(JA ps e2 x).1],(JA ps e2 x).2,o2,cp2⟩ O (⟨by omega,⟨by simp[hl2],by rw[←hC2,Cd hx];simp[HZ]⟩⟩) (e1:=⟨we (H9 (zs++[(.mk zk zi zn zl zs1:Tm)]) (by rw[hz])),we rfl,trivial⟩) (e2:=wl (Gw (zs++[(.mk zk zi zn zl zs1:Tm)]) (by rw[hz])) (wl (oe rfl) (wl (oe rfl) (wl (oe rfl) (Ih))))))
  refine DF [0] O (DS [2] O (BH (CL (i:=0) [13,73] O (DA ⟨O,O,Aw⟩)) (BW (A9 [3,1,0,1,0,0] O (Bg [0] [2] O O ?_)))));refine⟨by show (.agg [.p (I tk),.p (I ti),.p (.str tn),.p (.lst (List.map B4 ys)),.p (.lst (A6 zs))]:AV)=_;rw[fB (j9 hC Au) (jS hC2 Au)];rfl,?_⟩;show ([.box b [.p (I e2),.p (I nd)]]:List A4)=_;rw[fB (j9 hC Au) (jS hC2 Au)]
theorem Lx : ∀ (t : Tm) (ps : List CX), (Nd t) → (ps.length < Db) → (∀ p ∈ ps, OA p) → En Tryz.prog 119 [.agg ((BD t).map .p), .p (.lst (List.map B4 ps))] (.tup [.agg ((BD ((BU t ps).1)).map .p), .p (I ((BU t ps).2))]) := by
 intro t ps h1 h2 h3
 refine DI Tryz.func119 ?_
 refine CG [0] O O fun b2 => ?_
 refine Bp [0] O (Az Ba O) fun b4 => ?_
 refine CG [2] O O fun b9 => ?_
 refine A2 [4, 2] O (Bj [0] O (.inl ⟨O, O, O⟩) (iK _ t ps b9 0 0 (Nat.le_refl _) h1 h2 h3) ⟨_, _, O, O, O⟩ As O (.inl O)) ?_
 refine Bp [0] O (Az Ba O) fun b7 => ?_
 refine BC [6, 0, 1, 1] rfl ?_ ?_ <;> intro c
 ·refine E2 [0] [] O ?_
  refine Dj [7, 1, 2, 0] O (CK [0] O ?_)
  refine A5 (BE (i := 2) O) ?_
  refine BP (A9 [0] O (Bg [2] [] O O ⟨by rw [show BU t ps = (BN, (JA ps 0 t).2) by rw [BU, if_pos c]]; rfl, rfl⟩))
 refine A9 [3, 0, 2, 1] O (Bg [2] [] O O ⟨by rw [show BU t ps = ((JA ps 0 t).1, 0) by rw [BU, if_neg Au]]; try rfl, rfl⟩)
theorem _root_.Go.Ab {α:Prop}(h:α:=by simp only[Db,List.length_drop];omega):α:=h
theorem Z5 : ∀ (ds : List B8) (g : Tm) (a : List Tm) (m : Tm) (b : Nat) (c c2 : Dn) (q : Option Tm), (MC ds) → ((Co ds g.name).1 ∈ ds) → (okB g = true) → (okB m = true) → (Bv (Co ds g.name).1 < a.length) → (a.length < 549755813888) → (ER ds DK (Co ds g.name).1 g a m c = .ok (q, c2)) → BL Tryz.prog 77 [.p (.lst (List.map B1 ds)), .agg ((BD g).map .p), .p (.lst (A6 a)), .agg ((BD m).map .p), .ptr b 0] [.box b ((HX c).map .p)] (Gm (.tup [.agg ((BD (q.getD BN)).map .p), .p (.bool q.isSome)]) [.box b ((HX c2).map .p)]) := by
 intro ds g a m b c c2 q h1 h2 h3 h4 h5 h6 h7
 obtain ⟨gk, gi, gn, gl, gs⟩ := g
 simp only [Tm.name] at h2 h5 h7
 have hdg := h1.all _ h2
 have hnr := KK hdg
 have hgo := Bu.1 h3
 have hgl := hgo.nd
 simp only [Nd, Db] at hgl
 have hcl := hdg.din.cl
 have hrl := hdg.din.rl
 have hfx := hdg.fx
 have hir := GM hdg.din hdg.fx
 refine DI Tryz.func77 ?_
 refine CG [0] O O fun b6 => ?_
 refine CG [0] O O fun b8 => ?_
 refine Bp [0] O (Az Ba O) fun b10 => ?_
 refine CQ [4, 2] O (S8 ds gn h1.env) ?_
 refine Bp [4] O (Az Ie O) fun b12 => ?_
 refine CQ [5, 0, 1, 2] O (PX ds m h1 h4) ?_
 refine Bp [5] O (Az Ie O) fun b15 => ?_
 refine CI [4, 0, 1] 3 [2, 4, 6, 10, 12, 16, 17] 54 (((!((Bo ds m).2.2.2)) || (!((((Bo ds m).1).name).toList == (((Co ds gn).1).name).toList))) || (decide (((Bo ds m).2.1 : Int) ≥ (((((Co ds gn).1).recs.rules).length : Nat) : Int)))) O O ?_ ?_
 ·refine Bc [3] 40 rfl rfl ?_ ?_ <;> intro g1
  ·exact CT [14] O
  refine A2 [1] O (Ax (i := 0) N7 O O (DZ _)) ?_
  refine A2 [1] O (Ax (i := 1) N7 O O (DZ _)) ?_
  refine A2 [0] O (Js O O) ?_
  refine Bc [2] 47 rfl rfl ?_ ?_ <;> intro g2
  ·exact CT [7] O
  refine A2 [3] O (Ax (i := 1) JW O O (Cp _)) ?_
  refine CA [0] O O (A8 _) ?_
  exact CT [2] O
 refine BC [0] rfl ?_ ?_ <;> intro c1
 ·have hq := (aJ (S := DK) (h := .mk gk gi gn gl gs) (a := a) (s := c) c1).symm.trans h7
  cases hq
  refine CK [3, 2, 0] O ?_
  refine A5 (BE (i := 2) O) ?_
  refine BP (A9 [0] O (Bg [2] [5] O O ⟨O, O⟩))
 obtain ⟨hg1, hg2, hg3⟩ := WM c1
 have hg4 := c1.2
 have hfl := JD h1 hg1
 refine E2 [0] [12] O ?_
 refine Bb [2] O ?_
 refine CF (j := 1) O O O (fun H i hi => Ax (i := i) JW O hi (Cp _)) AB Aw ?_
 refine A3 O (fun _ => Bh O) Aw ?_
 obtain ⟨x, hx⟩ := A1 (l := ((Co ds gn).1).recs.rules) (i := ((Bo ds m).2.1 : Int).toNat) Au
 have hro := Bu.1 (hdg.ru _ (List.mem_of_getElem? hx))
 refine A3 O (fun _ => A0 BS O O Au (BO hx) (A7 _)) Aw ?_
 refine Bb [3, 4] O ?_
 refine A3 O (fun _ => BF O O (Lx x gl hro.nd hgl.2.1 hgl.2.2.1) O) Aw ?_
 refine Bb [3] O ?_
 refine Ge [] O O (Az Ba O) Ap fun b19 => ⟨AB, Aw, ?_⟩
 refine Dj [2, 0, 1] rfl (BC [2] rfl ?_ ?_) <;> intro c3
 ·have hq := (Mp (S := DK) (h := .mk gk gi gn gl gs) (a := a) (s := c) hg1 hg2 hx c3).symm.trans h7
  cases hq
  refine CK [3, 3, 0] O ?_
  refine A5 (BE (i := 3) O) ?_
  refine BP (A9 [0] O (Bg [3] [6] O O ⟨O, O⟩))
 have hq := (NY (S := DK) (h := .mk gk gi gn gl gs) (a := a) (s := c) hg1 hg2 hx c3).symm.trans h7
 obtain ⟨hpo, hpe⟩ := IM (h := (by rw [hq]; simp))
 rw [hpe] at hq
 cases hq
 refine E2 [0] [11] O ?_
 refine Bb [3, 0] O ?_
 refine CF (j := 2) O O O (fun H i hi => Ax (i := i) Dz O hi (Cr _)) AB Aw ?_
 refine Bb [2] O ?_
 refine CF (j := 2) O O O (fun H i hi => Ax (i := i) GC O hi (B5 _)) AB Aw ?_
 refine A3 O (fun _ => Ct Km O (List.length_map _)) Aw ?_
 refine A3 O (fun _ => Kd O O Au Au) Aw ?_
 refine A3 O (fun _ => Cn (lo := 0) (hi := (((((Co ds gn).1).fixed : Int) + (1 : Int) : Int) + (((((Co ds gn).1).ctors).length : Nat) : Int) : Int).toNat) BS O (CW (Bd _)) O ⟨_, pI Au⟩ (Nat.zero_le _) AZ (V4 a ((((((Co ds gn).1).fixed : Int) + (1 : Int) : Int) + (((((Co ds gn).1).ctors).length : Nat) : Int) : Int).toNat))) Aw ?_
 refine A3 O (fun _ => BF O O (Ee ((BU x gl).1) (a.take ((((((Co ds gn).1).fixed : Int) + (1 : Int) : Int) + (((((Co ds gn).1).ctors).length : Nat) : Int) : Int).toNat)) (by simp only [Db, List.length_take]; omega)) O) Aw ?_
 refine Ge [] O O (Az Ba O) Ap fun b21 => ⟨AB, Aw, ?_⟩
 refine Dj [1, 0, 1] O (E2 [0] [] O ?_)
 refine Bb [3, 0] O ?_
 refine A3 O (fun _ => BF O O (Ee (apply ((BU x gl).1) (a.take ((((((Co ds gn).1).fixed : Int) + (1 : Int) : Int) + (((((Co ds gn).1).ctors).length : Nat) : Int) : Int).toNat))) ((Bo ds m).2.2.1) Ak) O) Aw ?_
 refine FB O O (Bj [7] O (.inl ⟨O, O, O⟩) (Fv b c (apply (apply ((BU x gl).1) (a.take ((((((Co ds gn).1).fixed : Int) + (1 : Int) : Int) + (((((Co ds gn).1).ctors).length : Nat) : Int) : Int).toNat))) ((Bo ds m).2.2.1)) 0 (Bu.1 hpo).nd) ⟨_, _, O, O, O⟩ As O (.inl O)) AB Aw ?_
 refine Bb [2, 3] O ?_
 refine A3 O (fun _ => BF O O (LR ((Co ds gn).1) hdg.din hdg.fx) O) Aw ?_
 refine A3 O (fun _ => Kd O O Au Au) Aw ?_
 refine A3 O (fun _ => Cn (lo := ((Bv ((Co ds gn).1) : Int) + (1 : Int) : Int).toNat) BS O (CW (Bd _)) ⟨_, pI Au⟩ O AZ (Nat.le_refl _) (MR a (((Bv ((Co ds gn).1) : Int) + (1 : Int) : Int).toNat))) Aw ?_
 refine A3 O (fun _ => BF O O (Ee (apply (apply ((BU x gl).1) (a.take ((((((Co ds gn).1).fixed : Int) + (1 : Int) : Int) + (((((Co ds gn).1).ctors).length : Nat) : Int) : Int).toNat))) ((Bo ds m).2.2.1)) (a.drop (((Bv ((Co ds gn).1) : Int) + (1 : Int) : Int).toNat)) Ab) O) Aw ?_
 refine Dj [2, 4, 1] O (A9 [0] O (Bg [4] [7] O O ⟨O, O⟩))
theorem Va : ∀ (n : Nat) (ds : List B8) (g : Tm) (a : List Tm) (b : Nat) (c c2 : Dn) (q : Option Tm), (xN ds n) → (G2 ds) → (okB g = true) → (∀ x ∈ a, okB x = true) → (a.length < 549755813888) → (Dc ds DK (FM ds DK n) n g a c = .ok (q, c2)) → BL Tryz.prog 74 [.p (.lst (List.map B1 ds)), .agg ((BD g).map .p), .p (.lst (A6 a)), .ptr b 0] [.box b ((HX c).map .p)] (Gm (.tup [.agg ((BD (q.getD BN)).map .p), .p (.bool q.isSome)]) [.box b ((HX c2).map .p)]) := by
 intro n ds g a b c c2 q hW h2 h3 h4 h5 h6
 obtain ⟨gk, gi, gn, gl, gs⟩ := g
 have hgo := Bu.1 h3
 have hgl := hgo.nd
 simp only [Nd, Db] at hgl
 refine DI Tryz.func74 ?_
 refine CG [0] O O fun b5 => ?_
 refine Bp [0] O (Az Ba O) fun b8 => ?_
 refine CQ [3, 1] O (Th ds (.mk gk gi gn gl gs : Tm) h2.g.env) ?_
 refine Bp [3] O (Az GL O) fun b10 => ?_
 refine BC [4, 0, 1] rfl ?_ ?_ <;> intro c1
 ·have hq := (L2 (E := ds) (S := DK) (W := FM ds DK n) (n := n) (h := (.mk gk gi gn gl gs : Tm)) (a := a) (s := c) c1).symm.trans h6
  cases hq
  refine CK [3, 1, 0] O ?_
  refine A5 (BE (i := 1) O) ?_
  refine BP (A9 [0] O (Bg [1] [3] O O ⟨O, O⟩))
 have hu := c1
 obtain ⟨ix, dd, e1, e2, e3, e4⟩ := KI hu
 have hde := e2.decl
 have hdg := h2.g.all _ e3
 have hel := h2.g.env.len
 have hil := (List.getElem?_eq_some_iff.1 e1).1
 have hfx := hdg.fx
 have hnr := KK hdg
 have hcl := hdg.din.cl
 have hfl := hdg.din.fl
 refine A2 [2] O (Ax (i := 0) Dz O O (EJ _)) ?_
 refine A2 [0] O (A0 Qb O O Au (G4 e4) (DJ _)) ?_
 refine Bp [1] O (Az Ie O) fun b12 => ?_
 refine A2 [2, 0, 1] O (Ax (i := 1) Dz O O (FZ _)) ?_
 refine BC [2] rfl ?_ ?_ <;> intro c3
 ·have hk1 := c3
  refine A2 [1] O (Bq (i := 0) CN O O (Fu _) (A7 _)) ?_
  refine CQ [2, 3] O (Lx dd.value gl (Bu.1 hdg.vl).nd hgl.2.1 hgl.2.2.1) ?_
  refine Bp [3] O (Az Ba O) fun b13 => ?_
  refine BC [4, 0, 1] rfl ?_ ?_ <;> intro c4
  ·have hq := ((Jr (E := ds) (S := DK) (W := FM ds DK n) (n := n) (h := (.mk gk gi gn gl gs : Tm)) (a := a) (s := c) (d := dd) hu e4 hk1).trans (Jv (h := (.mk gk gi gn gl gs : Tm)) c4)).symm.trans h6
   cases hq
   refine CK [3, 3, 0] O ?_
   refine A5 (BE (i := 3) O) ?_
   refine BP (A9 [0] O (Bg [3] [5] O O ⟨O, O⟩))
  have hq := ((Jr (E := ds) (S := DK) (W := FM ds DK n) (n := n) (h := (.mk gk gi gn gl gs : Tm)) (a := a) (s := c) (d := dd) hu e4 hk1).trans (KD (h := (.mk gk gi gn gl gs : Tm)) c4)).symm.trans h6
  obtain ⟨hpo, hpe⟩ := IM (h := (by rw [hq]; simp))
  rw [hpe] at hq
  cases hq
  refine A2 [2, 0] O (Bj [5] O (.inl ⟨O, O, O⟩) (Fv b c ((BU dd.value gl).1) 0 (Bu.1 hpo).nd) ⟨_, _, O, O, O⟩ As O (.inl O)) ?_
  refine CQ [1] O (Ee ((BU dd.value gl).1) a Ak) ?_
  refine A9 [2, 3, 1] O (Bg [3] [5] O O ⟨O, O⟩)
 have hk1 := c3
 refine BC [2] rfl ?_ ?_ <;> intro c4
 ·have hk5 := c4
  refine CA [1] O O (A8 _) ?_
  refine CQ [1, 0] O (LR dd hdg.din hdg.fx) ?_
  refine BC [1] rfl ?_ ?_ <;> intro c5
  ·have hq := ((Jw (E := ds) (S := DK) (W := FM ds DK n) (n := n) (h := (.mk gk gi gn gl gs : Tm)) (a := a) (s := c) (d := dd) hu e4 hk5).trans (Rv Au)).symm.trans h6
   cases hq
   refine CK [3, 2, 0] O ?_
   refine A5 (BE (i := 2) O) ?_
   refine BP (A9 [0] O (Bg [2] [4] O O ⟨O, O⟩))
  refine E2 [0] [] O ?_
  refine Bb [6, 3, 0] O ?_
  refine A3 O (fun _ => BF O O (LR dd hdg.din hdg.fx) O) Aw ?_
  obtain ⟨x, hx⟩ := A1 (l := a) (i := (Bv dd : Int).toNat) Au
  obtain ⟨⟨r, d2⟩, hr1, hr2, hr3⟩ := HA (((Jw (E := ds) (S := DK) (W := FM ds DK n) (n := n) (h := (.mk gk gi gn gl gs : Tm)) (a := a) (s := c) (d := dd) hu e4 hk5).trans (Xc Au hx)).symm.trans h6)
  have hfd := ka (eI hu) hk5 e4
  refine A3 O (fun _ => A0 BS O O Au (BO hx) (A7 _)) Aw ?_
  refine Bb [2] O ?_
  refine FB O O (Bj [4] O (.inl ⟨O, O, O⟩) (hW b x c d2 r hr1) ⟨_, _, O, O, O⟩ As O (.inl O)) AB Aw ?_
  refine A3 O (fun _ => Bh O) Aw ?_
  refine FB O O (Bj [4] O (.inl ⟨O, O, O⟩) (Z5 ds (.mk gk gi gn gl gs : Tm) a r b d2 c2 q h2.g (hfd ▸ e3) h3 hr2 (by rw [hfd]; omega) h5 (by rw [hfd]; exact hr3)) ⟨_, _, O, O, O⟩ As O (.inl O)) AB Aw ?_
  refine Dj [4, 2, 1] O (A9 [0] O (Bg [2] [4] O O ⟨O, O⟩))
 have hk5 := c4
 refine BC [2] rfl ?_ ?_ <;> intro c5
 ·have hk6 := c5
  obtain ⟨fk, ff, f1, f2⟩ := e2.func hk6
  have hfi := (List.getElem?_eq_some_iff.1 f1).1
  have hff : dd.funs[(BY ds (Tm.mk gk gi gn gl gs).name).1.item.toNat]? = some ff := by rw [f2]; simpa using f1
  have hfm := List.mem_of_getElem? f1
  have hfa := hdg.fu ff hfm
  refine A2 [1] O (Ax (i := 0) F6 O O (CD _)) ?_
  refine A2 [1] O (Ax (i := 1) Dz O O (GS _)) ?_
  refine A2 [0] O (A0 J2 O O Au (Fe hff) (Eh _)) ?_
  refine Bp [1] O (Az mQ O) fun b15 => ?_
  refine CA [2, 0, 1] O O (A8 _) ?_
  refine A2 [1] O (Ax (i := 0) Dz O O (C9 _)) ?_
  refine BC [1] rfl ?_ ?_ <;> intro c6
  ·have hq := ((Iq (E := ds) (S := DK) (W := FM ds DK n) (n := n) (h := (.mk gk gi gn gl gs : Tm)) (a := a) (s := c) (d := dd) (f := ff) hu e4 hk6 hff).trans (NU Au)).symm.trans h6
   cases hq
   refine CK [3, 3, 0] O ?_
   refine A5 (BE (i := 3) O) ?_
   refine BP (A9 [0] O (Bg [3] [5] O O ⟨O, O⟩))
  have hl0 : ¬ (a.length : Int) < ff.arity := by omega
  obtain ⟨⟨lq, d2⟩, hl1, hl2⟩ := D9 (((Iq (E := ds) (S := DK) (W := FM ds DK n) (n := n) (h := (.mk gk gi gn gl gs : Tm)) (a := a) (s := c) (d := dd) (f := ff) hu e4 hk6 hff).trans (NT hl0)).symm.trans h6)
  have hlo := Zk h2.g _ _ _ _ _ _ _ (dR h2 e3 hfm h4) hl1
  refine CK [0] O ?_
  refine O9 [.box b15 ((Ix ff).map .p), .box b12 ((B1 dd).map .p), .box b10 ((GH ((BY ds (.mk gk gi gn gl gs : Tm).name).1)).map .p), .box b8 [.p (I 0), .p (I 0), .p (.str ⟨#[]⟩), .p (.nils), .p (.nils)], .box b5 [.p (I gk), .p (I gi), .p (.str gn), .p (.lst (List.map B4 gl)), .p (.lst (A6 gs))], .box b ((HX d2).map .p)] 8 [.val (.p (.lst (List.map B1 ds))), .val (.ptr b15 (0 + 7)), .val (.agg ((EC ff.tree).map .p)), .val (.p (.lst (A6 a))), .val (.ptr b15 (0 + 6)), .val (.p (I ff.arity)), .val (.p (.lst (A6 (a.take ((ff.arity : Int).toNat))))), .val (.ptr b 0), .val (.tup [.agg ((BD (YI lq)).map .p), .p (.lst (A6 (aO lq))), .p (.bool lq.1.isSome), .agg ((BD lq.2).map .p)]), .val (.tup [.agg ((BD (YI lq)).map .p), .p (.lst (A6 (aO lq))), .p (.bool lq.1.isSome), .agg ((BD lq.2).map .p)]), .val (.agg ((BD (YI lq)).map .p)), .val (.p (.lst (A6 (aO lq)))), .val (.p (.bool lq.1.isSome)), .val (.agg ((BD lq.2).map .p)), .new [.p (I 0), .p (I 0), .p (.str ⟨#[]⟩), .p (.nils), .p (.nils)], .new [.p (I 0), .p (I 0), .p (.str ⟨#[]⟩), .p (.nils), .p (.nils)]] [.p .any, .p (.lst (A6 (aO lq))), .p (.bool lq.1.isSome), .p .any] [11, 12, 13] Ot O Ap Ap Ap O ?_
  refine Ca O O (fun Bs => Bh O) ?_
  refine Ca O O (fun Bs => BG O2 O O) ?_
  refine MB O O O (fun Bs => Bq (i := Bs.length + 0) LM O (EB O) (HU _) (Ds _)) (fun _ Bs => Bq (i := Bs.length + 0) LM O (EB O) (HU _) (Ds _)) ?_
  refine Ca O O (fun Bs => Bh O) ?_
  refine Ca O O (fun Bs => BG O2 O O) ?_
  refine MB O O O (fun Bs => Ax (i := Bs.length + 0) Dz O (EB O) (C9 _)) (fun _ Bs => Ax (i := Bs.length + 0) Dz O (EB O) (C9 _)) ?_
  refine Ca O O (fun Bs => Cn (lo := 0) (hi := (ff.arity : Int).toNat) BS O (CW (Bd _)) O ⟨_, pI Au⟩ (Nat.zero_le _) AZ (V4 a ((ff.arity : Int).toNat))) ?_
  refine Ca O O (fun Bs => Bh O) ?_
  refine To O O (fun Bs => Mx [5] O (.inl ⟨O, O, O⟩) (nK n n ds ff.tree (a.take ((ff.arity : Int).toNat)) b c d2 lq hW h2.g (dR h2 e3 hfm h4) hl1) ⟨_, _, O, O, O⟩ As O (aw (we O) (aw (we O) (aw (we O) (aw (we O) (HT)))))) ?_
  refine Ca O O (fun Bs => Bh O) ?_
  refine Ca O O (fun Bs => HI O O) ?_
  refine Ca O O (fun Bs => HI O O) ?_
  refine Ca O O (fun Bs => HI O O) ?_
  refine Ca O O (fun Bs => HI O O) ?_
  refine kC O O (fun Bs => Az Ba O) fun b16 => ?_
  refine kC O O (fun Bs => Az Ba O) fun b19 => ?_
  refine KL ?_
  refine Hv [.box b16 ((BD (YI lq)).map .p), .box b19 [.p (I 0), .p (I 0), .p (.str ⟨#[]⟩), .p (.nils), .p (.nils)], .box b15 ((Ix ff).map .p), .box b12 ((B1 dd).map .p), .box b10 ((GH ((BY ds (.mk gk gi gn gl gs : Tm).name).1)).map .p), .box b8 [.p (I 0), .p (I 0), .p (.str ⟨#[]⟩), .p (.nils), .p (.nils)], .box b5 [.p (I gk), .p (I gi), .p (.str gn), .p (.lst (List.map B4 gl)), .p (.lst (A6 gs))], .box b ((HX d2).map .p)] O (DX (i := 0) CN O O O Am Ag (Gd _)) ?_
  refine Hv [.box b16 ((BD (YI lq)).map .p), .box b19 [.p (I 0), .p (I 0), .p (.str ⟨#[]⟩), .p (.nils), .p (.nils)], .box b15 ((Ix ff).map .p), .box b12 ((B1 dd).map .p), .box b10 ((GH ((BY ds (.mk gk gi gn gl gs : Tm).name).1)).map .p), .box b8 [.p (I 0), .p (I 0), .p (.str ⟨#[]⟩), .p (.nils), .p (.nils)], .box b5 [.p (I gk), .p (I gi), .p (.str gn), .p (.lst (List.map B4 gl)), .p (.lst (A6 gs))], .box b ((HX d2).map .p)] O (H7 O) ?_
  refine Hv [.box b16 ((BD (YI lq)).map .p), .box b19 [.p (I 0), .p (I 0), .p (.str ⟨#[]⟩), .p (.nils), .p (.nils)], .box b15 ((Ix ff).map .p), .box b12 ((B1 dd).map .p), .box b10 ((GH ((BY ds (.mk gk gi gn gl gs : Tm).name).1)).map .p), .box b8 [.p (I 0), .p (I 0), .p (.str ⟨#[]⟩), .p (.nils), .p (.nils)], .box b5 [.p (I gk), .p (I gi), .p (.str gn), .p (.lst (List.map B4 gl)), .p (.lst (A6 gs))], .box b ((HX d2).map .p)] O (H7 O) ?_
  refine Hv [.box b16 ((BD (YI lq)).map .p), .box b19 ((BD lq.2).map .p), .box b15 ((Ix ff).map .p), .box b12 ((B1 dd).map .p), .box b10 ((GH ((BY ds (.mk gk gi gn gl gs : Tm).name).1)).map .p), .box b8 [.p (I 0), .p (I 0), .p (.str ⟨#[]⟩), .p (.nils), .p (.nils)], .box b5 [.p (I gk), .p (I gi), .p (.str gn), .p (.lst (List.map B4 gl)), .p (.lst (A6 gs))], .box b ((HX d2).map .p)] O (DX (i := 1) CN O O O Am Ag (Gd _)) ?_
  refine Oi ?_
  refine Cu (CI [0] 20 [2, 3, 5, 8, 15, 16, 17] 114 ((!lq.1.isSome) || d2.over) O O ?_ ?_)
  ·refine Bc [3] 109 rfl rfl ?_ ?_ <;> intro g1
   ·exact CT [5] O
   exact CT [5, 7] O
  refine BC [0] rfl ?_ ?_ <;> intro c7
  ·rw [Lb (by simpa [DK] using c7)] at hl2
   cases hl2
   refine CK [3, 5, 0] O ?_
   refine A5 (BE (i := 5) O) ?_
   refine BP (A9 [0] O (Bg [5] [7] O O ⟨O, O⟩))
  rw [OM (by simpa using c7.1) (by simpa [DK] using c7.2)] at hl2
  refine CQ [3, 0, 6] O (Lx (YI lq) gl (Bu.1 hlo.1).nd hgl.2.1 hgl.2.2.1) ?_
  refine Bp [3] O (Az Ba O) fun b20 => ?_
  refine BC [4, 0, 1] rfl ?_ ?_ <;> intro c8
  ·rw [KE (h := (.mk gk gi gn gl gs : Tm)) c8] at hl2
   cases hl2
   refine CK [3, 6, 0] O ?_
   refine A5 (BE (i := 6) O) ?_
   refine BP (A9 [0] O (Bg [6] [8] O O ⟨O, O⟩))
  obtain ⟨hb1, hb2, hb3, hb4⟩ := X3 (by rw [hl2]; simp) c8
  rw [hb4] at hl2
  obtain ⟨hpo, hpe⟩ := IM (h := (by rw [hl2]; simp))
  rw [hpe] at hl2
  cases hl2
  refine E2 [0] [] O ?_
  refine Bb [2, 0] O ?_
  refine A3 O (fun _ => BF O O (PM (aO lq) Ak) O) Aw ?_
  refine A3 O (fun _ => BF O O (K2 ((BU (YI lq) gl).1) ((aO lq).reverse) (by have := Ft (t := (BU (YI lq) gl).1) hb1; omega) (Bu.1 hb1).nd (FF (ah hb2)).1 (by rw [Q1]; omega)) O) Aw ?_
  refine Dj [5, 0, 1] O (E2 [0] [] O ?_)
  refine Bb [3, 0] O ?_
  refine FB O O (Bj [8] O (.inl ⟨O, O, O⟩) (Fv b (Dn.mk d2.steps d2.nodes d2.forms d2.limit d2.over) ((B9 ((BU (YI lq) gl).1) ((aO lq).reverse) 0).1) ((B9 ((BU (YI lq) gl).1) ((aO lq).reverse) 0).2) (Bu.1 hpo).nd) ⟨_, _, O, O, O⟩ As O (.inl O)) AB Aw ?_
  refine Bb [2] O ?_
  refine CF (j := 3) O O O (fun H i hi => Ax (i := i) Dz O hi (C9 _)) AB Aw ?_
  refine A3 O (fun _ => Cn (lo := (ff.arity : Int).toNat) BS O (CW (Bd _)) ⟨_, pI Au⟩ O AZ (Nat.le_refl _) (MR a ((ff.arity : Int).toNat))) Aw ?_
  refine A3 O (fun _ => BF O O (Ee ((B9 ((BU (YI lq) gl).1) ((aO lq).reverse) 0).1) (a.drop ((ff.arity : Int).toNat)) Ab) O) Aw ?_
  refine Dj [2, 6, 1] O (A9 [0] O (Bg [6] [8] O O ⟨O, O⟩))
 have hq := (Pt (E := ds) (S := DK) (W := FM ds DK n) (n := n) (h := (.mk gk gi gn gl gs : Tm)) (a := a) (s := c) hu hk1 hk5 c5).symm.trans h6
 cases hq
 refine CK [3, 2, 0] O ?_
 refine A5 (BE (i := 2) O) ?_
 refine BP (A9 [0] O (Bg [2] [4] O O ⟨O, O⟩))
theorem _root_.Go.AX {α:Prop}(h:α:=by first | decide | (simp only[A8];omega)):α:=h
set_option maxHeartbeats 4000000 in
theorem Yo : ∀ (ds : List B8) (hE : G2 ds) (n : Nat), xN ds n := by
 intro ds hE n
 induction n using Nat.strongRecOn with
 | ind n ih =>
  intro b t c c2 r h1
  refine DI Tryz.func61 ?_
  refine CG [0] O O fun b4 => ?_
  refine Bp [0] O (Az Ba O) fun b6 => ?_
  refine GG (α := Nat × Tm × Dn) [0] [0, 2, 4, 6] [0, 1, 2] (fun (m, w, d) => []) (fun (m, w, d) => [(1, .box b4 ((BD w).map .p)), (2, .box b ((HX d).map .p))]) (fun (m, w, d) => m) (fun (m, w, d) => FM ds DK m d w = .ok (r, c2) ∧ m ≤ n) ⟨n, t, c⟩ O O O (⟨h1, Nat.le_refl _⟩) ?_
  rintro ⟨m, w, d⟩ hC
  try simp only at hC
  obtain ⟨hC, hmn⟩ := hC
  obtain ⟨k, rfl⟩ := oU hC Av
  have hwo := bP hC Av
  have hsp := Q8 hwo
  have hsl := hsp.len
  have hss := hsp.sz
  have hsa := hsp.asz
  refine BC [5, 2] rfl ?_ ?_ <;> intro c1
  ·have hov : DK.over d = false := by simpa [DK] using c1
   refine CQ [1, 1] O (LG _ w (Nat.le_refl _) Ak) ?_
   refine Bp [3] O (Az Ba O) fun b7 => ?_
   generalize hz : (Ay w).1 = z
   obtain ⟨zk, zi, zn, zl, zs⟩ := z
   have hzo : okB (.mk zk zi zn zl zs) = true := hz ▸ hsp.head
   have hzl := J6 hzo
   have hzn := (Bu.1 hzo).nd
   refine BC [6, 0, 1, 0] rfl ?_ ?_ <;> intro c3
   ·have hk := (congrArg Tm.kind hz).trans c3
    refine CA [1] O O (A8 _) ?_
    refine BC [1] rfl ?_ ?_ <;> intro c4
    ·have hq := (MI hwo hov rfl hk Au).symm.trans hC
     cases hq
     refine A9 [2, 2, 1, 1] O (Bg [1] [3] O O ⟨O, O⟩)
    refine E2 [0] [10] O ?_
    refine Bb [2, 0] O ?_
    obtain ⟨x, hx⟩ := A1 (l := zs) (i := 1) Au
    have hxo := Fh hzo (i := 1) hx
    have hq := (UH hwo hov rfl hk Au (by rw [hz]; exact hx)).symm.trans hC
    obtain ⟨hpo, hpe⟩ := IM (h := (by rw [hq]; simp))
    rw [hpe] at hq
    refine A3 O (fun _ => A0 BS O O Au (BO hx) (A7 _)) Aw ?_
    refine Bb [2] O ?_
    refine A3 O (fun _ => Cn (lo := 0) (hi := 1) BS O (CW (Bd _)) O ⟨_, O⟩ (Nat.zero_le _) AZ (V4 ((Ay w).2) 1)) Aw ?_
    refine A3 O (fun _ => BF O O (K2 x (((Ay w).2).take 1) (by have := Ft hxo; omega) (Bu.1 hxo).nd (WA hsp.args) (by have := DE (Ay w).2 1; omega)) O) Aw ?_
    refine Bb [3] O ?_
    refine Ge [] O O (Az Ba O) Ap fun b9 => ⟨AB, Aw, ?_⟩
    refine Dj [2, 0, 1] O (E2 [0] [] O ?_)
    refine Bb [3, 0] O ?_
    refine FB O O (Bj [4] O (.inl ⟨O, O, O⟩) (Fv b (Dn.mk d.steps d.nodes d.forms d.limit d.over) ((B9 x (((Ay w).2).take 1) 0).1) ((B9 x (((Ay w).2).take 1) 0).2) (Bu.1 hpo).nd) ⟨_, _, O, O, O⟩ As O (.inl O)) AB Aw ?_
    refine A3 O (fun _ => Bh O) Aw ?_
    refine A3 O (fun _ => Cn (lo := 1) BS O (CW (Bd _)) ⟨_, O⟩ O AZ (Nat.le_refl _) (MR ((Ay w).2) 1)) Aw ?_
    refine A3 O (fun _ => BF O O (Ee ((B9 x (((Ay w).2).take 1) 0).1) (((Ay w).2).drop 1) Ab) O) Aw ?_
    refine CY tab 1 [3, 1] O ?_
    exact Cu (FR [0] 2 ⟨k, (apply ((B9 x (((Ay w).2).take 1) 0).1) (((Ay w).2).drop 1)), ((Dn.mk d.steps d.nodes d.forms d.limit d.over).result ((B9 x (((Ay w).2).take 1) 0).1) ((B9 x (((Ay w).2).take 1) 0).2))⟩ O (⟨hq, by omega⟩))
   refine BC [2] rfl ?_ ?_ <;> intro c4
   ·have hk := (congrArg Tm.kind hz).trans c4
    refine E2 [0] [11] O ?_
    refine Bb [2, 0] O ?_
    obtain ⟨x, hx⟩ := A1 (l := zs) (i := 2) Au
    have hxo := Fh hzo (i := 2) hx
    obtain ⟨v, hv⟩ := A1 (l := zs) (i := 1) Au
    have hvo := Fh hzo (i := 1) hv
    have hq := (Ta hwo hov rfl hk (by rw [hz]; exact hv) (by rw [hz]; exact hx)).symm.trans hC
    rw [← Qf hv] at hq
    obtain ⟨hpo, hpe⟩ := IM (h := (by rw [hq]; simp))
    rw [hpe] at hq
    refine A3 O (fun _ => A0 BS O O Au (BO hx) (A7 _)) Aw ?_
    refine Bb [3, 0] O ?_
    refine A3 O (fun _ => Cn (lo := 1) (hi := 2) BS O (CW (Bd _)) ⟨_, O⟩ ⟨_, O⟩ AX AX (nP zs 1 2)) Aw ?_
    refine A3 O (fun _ => BF O O (K2 x ((zs.take 2).drop 1) (by have := Ft hxo; omega) (Bu.1 hxo).nd (by rw [Qf hv]; exact ⟨(Bu.1 hvo).nd, trivial⟩) (by rw [Qf hv]; have := Ft hvo; simp only [BB]; omega)) O) Aw ?_
    refine Bb [3] O ?_
    refine Ge [] O O (Az Ba O) Ap fun b11 => ⟨AB, Aw, ?_⟩
    refine Dj [2, 0, 1] O (A2 [3, 0] O (Bj [4] O (.inl ⟨O, O, O⟩) (Fv b (Dn.mk d.steps d.nodes d.forms d.limit d.over) ((B9 x ((zs.take 2).drop 1) 0).1) ((B9 x ((zs.take 2).drop 1) 0).2) (Bu.1 hpo).nd) ⟨_, _, O, O, O⟩ As O (.inl O)) ?_)
    refine CQ [1] O (Ee ((B9 x ((zs.take 2).drop 1) 0).1) ((Ay w).2) Ab) ?_
    exact FR [1, 3, 1] 2 ⟨k, (apply ((B9 x ((zs.take 2).drop 1) 0).1) ((Ay w).2)), ((Dn.mk d.steps d.nodes d.forms d.limit d.over).result ((B9 x ((zs.take 2).drop 1) 0).1) ((B9 x ((zs.take 2).drop 1) 0).2))⟩ O (⟨hq, by omega⟩)
   refine CI [2] 999999 [0, 2, 4, 6, 7, 8, 27] 71 (decide (zk = 9 ∨ zk = 10)) O O ?_ ?_
   ·refine BC [0] rfl ?_ ?_ <;> intro c5
    ·exact CT [0] O (hr := (by refine pB (Bool.eq_iff_iff.2 ?_); simp only [beq_iff_eq, decide_eq_true_eq]; omega))
    exact CT [2] O (hr := (by refine pB (Bool.eq_iff_iff.2 ?_); simp only [beq_iff_eq, decide_eq_true_eq]; omega))
   refine BC [0] rfl ?_ ?_ <;> intro c5
   ·have hk9 : zk = 9 ∨ zk = 10 := by simpa using c5
    obtain ⟨x, hx⟩ := A1 (l := zs) (i := 0) Au
    obtain ⟨⟨pr, d2⟩, hr1, hr2, hr3⟩ := HA ((LY hwo hov rfl (by rw [hz]; exact hk9) (by rw [hz]; exact hx)).symm.trans hC)
    refine A2 [3, 0] O (A0 BS O O Au (BO hx) (A7 _)) ?_
    refine A2 [2] O (Bj [3] O (.inl ⟨O, O, O⟩) (ih k Au b x (Dn.mk d.steps d.nodes d.forms d.limit d.over) d2 pr hr1) ⟨_, _, O, O, O⟩ As O (.inl O)) ?_
    refine Bp [0] O (Az Ba O) fun b13 => ?_
    obtain ⟨prk, pri, prn, prl, prs⟩ := pr
    have hprl := J6 hr2
    refine BC [4, 0, 1, 0] rfl ?_ ?_ <;> intro c6
    ·rw [KF (r := (Tm.mk prk pri prn prl prs, d2)) c6] at hr3
     cases hr3
     refine A2 [3, 1, 0] O (BJ BS Ba O O O O O) ?_
     refine A2 [2] O (IW O O (Ee (.mk zk 0 ⟨#[]⟩ [] [(.mk prk pri prn prl prs : Tm)] : Tm) ((Ay w).2) Ab) (aw (FW O) (aw (we O) (HT)))) ?_
     refine A9 [1, 2, 1] O (Bg [2] [4] O O ⟨by rw [hz]; rfl, rfl⟩)
    have hp8 := c6
    obtain ⟨x1, hx1⟩ := A1 (l := prs) (i := (((1 : Int) + (zk : Int) : Int) - (9 : Int) : Int).toNat) Au
    have hxo := Fh hr2 (i := (1 + zk - 9).toNat) hx1
    have hq := (Pr (r := (Tm.mk prk pri prn prl prs, d2)) (h := (Ay w).1) hp8 (by rw [hz]; exact hx1)).symm.trans hr3
    obtain ⟨hpo, hpe⟩ := IM (h := (by rw [hq]; simp))
    rw [hpe] at hq
    refine A2 [7, 0, 1] O (A0 BS O O Au (BO hx1) (A7 _)) ?_
    refine A2 [1] O (Bj [4] O (.inl ⟨O, O, O⟩) (Fv b d2 x1 0 (Bu.1 hpo).nd) ⟨_, _, O, O, O⟩ As O (.inl O)) ?_
    refine CQ [1] O (Ee x1 ((Ay w).2) Ab) ?_
    exact FR [1, 3, 1] 2 ⟨k, (apply x1 ((Ay w).2)), (d2.result x1 0)⟩ O (⟨hq, by omega⟩)
   refine BC [2] rfl ?_ ?_ <;> intro c6
   ·have hk := (congrArg Tm.kind hz).trans c6
    obtain ⟨⟨q, d2⟩, hc1, hc2⟩ := D9 ((JG hwo hov rfl hk).symm.trans hC)
    refine A2 [4, 0] O (Bj [3] O (.inl ⟨O, O, O⟩) (Va k ds (.mk zk zi zn zl zs : Tm) ((Ay w).2) b (Dn.mk d.steps d.nodes d.forms d.limit d.over) d2 q (ih k Au) hE hzo hsp.args Au (by rw [← hz]; exact hc1)) ⟨_, _, O, O, O⟩ As O (.inl O)) ?_
    refine Bp [3] O (Az Ba O) fun b14 => ?_
    refine BC [4, 0, 1] rfl ?_ ?_ <;> intro c7
    ·rw [SZ (by simpa using c7)] at hc2
     cases hc2
     refine A9 [2, 3, 2, 1] O (Bg [2] [4] O O ⟨O, O⟩)
    rw [Sb (by simpa using c7)] at hc2
    have hq := hc2
    exact FR [2, 0, 3, 1] 2 ⟨k, (q.getD BN), d2⟩ O (⟨hq, by omega⟩)
   have hq := (Sk hwo hov rfl (by rw [hz]; assumption) (by rw [hz]; assumption) (by rw [hz]; show ¬ zk = 9; omega) (by rw [hz]; show ¬ zk = 10; omega) (by rw [hz]; assumption)).symm.trans hC
   cases hq
   refine A9 [2, 2, 1, 1] O (Bg [1] [3] O O ⟨O, O⟩)
  have hq := (dJ (S := DK) (E := ds) (n := k) hwo (by simpa [DK] using c1)).symm.trans hC
  cases hq
  refine DF [0] O ?_
  refine A9 [2, 1, 0, 1] O (Bg [0] [2] O O ⟨O, O⟩)
end Go.Proofs.YtldfmjoncbjldaaGreat
namespace Go.Eu
open Go.Abs
section
variable {E:List B8}{σ:Type}{S:Sys σ}{R:σ→σ→Prop}
structure kA (S:Sys σ) (R:σ→σ→Prop):Prop where
 rf:∀s,R s s
 tr:∀{a b c},R a b→R b c→R a c
 rs:∀{s t e s'},S.res s t e=some s'→R s s'
variable (h:kA S R)
include h
theorem Lo {α:Type}{s:σ}{x:Tm×Int}{k:Tm→σ→Out (α×σ)}{q:α×σ}(hk:∀t s' q,k t s'= .ok q→R s' q.2) (hq:S.put s x k= .ok q):R s q.2:=by
 unfold Sys.put at hq;split at hq
 ·cases hs:S.res s x.1 x.2 with
  | none=>rw[hs] at hq;cases hq
  | some s'=>rw[hs] at hq;exact h.tr (h.rs hs) (hk _ _ _ hq)
 cases hq
theorem T7 {W:σ→Tm→Out (Tm×σ)}(hW:∀s t q,W s t= .ok q→R s q.2):∀(k:Nat) (t:FY) (vs:List Tm) (l:Tm) (s:σ) (q:(Option (Tm×List Tm)×Tm)×σ),EA E S W k t vs l s= .ok q→R s q.2
 | 0,t,vs,l,s,q,hq=>by rw[EA] at hq;cases hq
 | k+1,t,vs,l,s,q,hq=>by
  by_cases hk:t.kind=1
  ·by_cases hb:t.var<0∨t.var≥(vs.length:Int)∨S.over s=true
   ·rw[KT hk hb] at hq;cases hq;exact h.rf _
   have hlt:t.var.toNat<vs.length:=by omega
   rw[L4 hk hb (List.getElem?_eq_getElem hlt)] at hq;obtain⟨r,h1,h2,h3⟩:=HA hq;have hr:=hW _ _ _ h1;cases hc:Ce E r.1 with
   | none=>rw[G7 hc] at h3;cases h3;exact hr
   | some p =>
    obtain⟨d,j,f⟩:=p;cases hbr:Cl (EM d j).name t.branches with
    | none=>rw[JK hc hbr] at h3;cases h3;exact hr
    | some t'=>rw[JM hc hbr] at h3;exact h.tr hr (T7 hW k t' _ _ _ _ h3)
  rw[Is hk] at hq;cases hq;exact h.rf _
theorem YT {d:B8}{g m:Tm}{a:List Tm}{s:σ}{q:Option Tm×σ}(hq:ER E S d g a m s= .ok q):R s q.2:=by
 unfold ER at hq;split at hq
 ·cases hq;exact h.rf _
 split at hq
 ·cases hq;exact h.rf _
 split at hq
 ·cases hq;exact h.rf _
 exact Lo h (fun t s' q e=>by cases e;exact h.rf _) hq
theorem jR {g b:Tm}{vs rest:List Tm}{s:σ}{q:Option Tm×σ}(hq:FE S g b vs rest s= .ok q):R s q.2:=by
 unfold FE at hq;split at hq
 ·cases hq;exact h.rf _
 split at hq
 ·cases hq
 exact Lo h (fun t s' q e=>by cases e;exact h.rf _) hq
theorem gw {d:B8}{g:Tm}{a:List Tm}{s:σ}{q:Option Tm×σ}(hq:EP S d g a s= .ok q):R s q.2:=by
 unfold EP at hq;split at hq
 ·cases hq;exact h.rf _
 exact Lo h (fun t s' q e=>by cases e;exact h.rf _) hq
theorem Vg {W:σ→Tm→Out (Tm×σ)}(hW:∀s t q,W s t= .ok q→R s q.2) {n:Nat}{g:Tm}{a:List Tm}{s:σ}{q:Option Tm×σ}(hq:Dc E S W n g a s= .ok q):R s q.2:=by
 unfold Dc at hq;split at hq
 ·cases hq;exact h.rf _
 split at hq
 ·exact gw h hq
 split at hq
 ·unfold QE at hq;split at hq
  ·cases hq;exact h.rf _
  obtain⟨r,h1,h2,h3⟩:=HA hq;exact h.tr (hW _ _ _ h1) (YT h h3)
 split at hq
 ·unfold Iw at hq;split at hq
  ·cases hq;exact h.rf _
  obtain⟨r,h1,h2⟩:=D9 hq;have hr:=T7 h hW _ _ _ _ _ _ h1;split at h2
  ·cases h2;exact hr
  split at h2
  ·cases h2;exact hr
  exact h.tr hr (jR h h2)
 cases hq;exact h.rf _
theorem XH:∀(n:Nat) (s:σ) (t:Tm) (q:Tm×σ),FM E S n s t= .ok q→R s q.2
 | 0,s,t,q,hq=>by rw[FM] at hq;cases hq
 | n+1,s,t,q,hq=>by
  have ih:=XH n;rw[FM] at hq;split at hq
  ·cases hq
  split at hq
  ·cases hq;exact h.rf _
  split at hq
  ·cases hq
  split at hq
  ·split at hq
   ·cases hq;exact h.rf _
   unfold KC at hq;split at hq
   ·cases hq
   exact Lo h (fun t s' q e=>ih _ _ _ e) hq
  split at hq
  ·unfold OV at hq;split at hq
   ·exact Lo h (fun t s' q e=>ih _ _ _ e) hq
   cases hq
  split at hq
  ·split at hq
   ·cases hq
   obtain⟨r,h1,h2,h3⟩:=HA hq;have hr:=ih _ _ _ h1;split at h3
   ·cases h3;exact hr
   unfold Jf at h3;split at h3
   ·cases h3
   exact h.tr hr (Lo h (fun t s' q e=>ih _ _ _ e) h3)
  split at hq
  ·obtain⟨r,h1,h2⟩:=D9 hq;have hr:=Vg h ih h1;split at h2
   ·cases h2;exact hr
   exact h.tr hr (ih _ _ _ h2)
  cases hq;exact h.rf _
end
theorem QL:kA CE (fun a b=>b≤a∧(0≤a→0≤b)):=by
 refine⟨fun s=>⟨Int.le_refl _,fun h=>h⟩,fun h1 h2=>⟨by omega,fun h=>h2.2 (h1.2 h)⟩,fun h=>?_⟩;simp only[CE] at h;split at h
 ·cases h
 cases h;omega
def NJ (n:Int):Except Int Unit:=if n - 1<0 then .error 0 else .ok ()
def K9 (n:Int) (x:Tm×Int):Except Int (Tm×Int):=if n - 1<0∨x.2≠0 then .error 0 else .ok (x.1,n - 1)
theorem vn {n:Int}(h:0≤n - 1):NJ n= .ok ():=by rw[NJ,if_neg Au]
theorem u4 {n:Int}(h:n - 1<0):NJ n= .error 0:=by rw[NJ,if_pos h]
end Go.Eu
namespace Go.Eu
theorem Zp {t:Tm}{vs:List Tm}(ht:okB t=true) (hv:∀v∈vs,okB v=true) (hl:vs.length<549755813888):Hh t vs 0=B9 t vs 0 :=
 iX (fN hv hl) (Bu.1 ht).wt (Bu.1 ht).vp (by have:=Ft ht;omega)
theorem mV {n e:Int}{x:Tm×Int}(h:NJ n= .error e):K9 n x= .error e:=by
 unfold NJ at h;split at h
 ·rename_i hn;cases h;rw[K9,if_pos (.inl hn)]
 cases h
theorem uv {n:Int}{t:Tm}{vs:List Tm}(hn:0≤n) (ht:okB t=true) (hv:∀v∈vs,okB v=true) (hl:vs.length<549755813888) (he:(Hh t vs 0).2≠0):K9 n (B9 t vs 0)= .error 0:=by
 rw[Zp ht hv hl] at he;rw[K9,if_pos (.inr he)]
theorem vC {n:Int}{t:Tm}{vs:List Tm}{u:Unit}(hn:NJ n= .ok u) (ht:okB t=true) (hv:∀v∈vs,okB v=true) (hl:vs.length<549755813888) (he:(Hh t vs 0).2=0):K9 n (B9 t vs 0)= .ok ((Hh t vs 0).1,n - 1):=by
 rw[Zp ht hv hl] at he ⊢;unfold NJ at hn;split at hn
 ·cases hn
 rw[K9,if_neg Au]
end Go.Eu
namespace Go.Eu
open Go.Abs
section
variable {α:Type}{n n2 e:Int}{x:Tm×Int}{z t:Tm}{k:Tm→Int→Out α}{u:Unit}
theorem UI (hs:CE.put n x k≠ .stuck) (h:K9 n x= .ok (z,n2)):CE.put n x k=k z n2:=by
 rw[(Rx hs).2];unfold K9 at h;split at h
 ·cases h
 rename_i hn;cases h;rw[if_neg hn]
theorem TM (hs:CE.put n x k≠ .stuck) (h:K9 n x= .error e):(CE.put n x k).ex= .error e:=by
 rw[(Rx hs).2];unfold K9 at h;split at h
 ·rename_i hn;cases h;rw[if_pos hn];rfl
 cases h
theorem vN (h:NJ n= .ok u):K9 n (t,0)= .ok (t,n - 1):=by
 unfold NJ at h;split at h
 ·cases h
 rw[K9,if_neg Au]
theorem lZ (hs:CE.put n (t,0) k≠ .stuck) (h:NJ n= .ok u):CE.put n (t,0) k=k t (n - 1):=UI hs (vN h)
theorem my (hs:CE.put n (t,0) k≠ .stuck) (h:NJ n= .error e):(CE.put n (t,0) k).ex= .error e:=TM hs (mV h)
end
theorem lF {n n2:Int}{x:Tm×Int}{z:Tm}(h:N3 n) (hp:K9 n x= .ok (z,n2)):N3 n2∧z=x.1:=by
 have h1:=h.1;have h2:=h.2;unfold K9 at hp;split at hp
 ·cases hp
 cases hp;exact⟨⟨by omega,by omega⟩,rfl⟩
section
variable {E:List B8}{g m:Tm}{a:List Tm}{s e:Int}{d:B8}{u:Unit}
theorem lf (hs:EP CE d g a s≠ .stuck) (he:(BU d.value g.levels).2=0) (hn:NJ s= .ok u):EP CE d g a s= .ok (some (apply (BU d.value g.levels).1 a),s - 1):=by
 rw[KD he] at hs ⊢;exact lZ hs hn
theorem kj (hs:EP CE d g a s≠ .stuck) (he:(BU d.value g.levels).2=0) (hn:NJ s= .error e):(EP CE d g a s).ex= .error e:=by
 rw[KD he] at hs ⊢;exact my hs hn
theorem py {c:B8}{j:Int}{f:List Tm}{r:Tm}(hs:ER E CE d g a m s≠ .stuck) (hc:Ce E m=some (c,j,f)) (hn:¬(c.name≠d.name∨j≥(d.recs.rules.length:Int))) (hr:d.recs.rules[j.toNat]?=some r) (he:(BU r g.levels).2=0) (hk:NJ s= .ok u) :
  ER E CE d g a m s= .ok (some (apply (apply (apply (BU r g.levels).1 (a.take (d.fixed+1+d.ctors.length).toNat)) f) (a.drop (Bv d+1).toNat)),s - 1):=by
 rw[NY hc hn hr he] at hs ⊢;exact lZ hs hk
theorem po {c:B8}{j:Int}{f:List Tm}{r:Tm}(hs:ER E CE d g a m s≠ .stuck) (hc:Ce E m=some (c,j,f)) (hn:¬(c.name≠d.name∨j≥(d.recs.rules.length:Int))) (hr:d.recs.rules[j.toNat]?=some r) (he:(BU r g.levels).2=0) (hk:NJ s= .error e) :
  (ER E CE d g a m s).ex= .error e:=by
 rw[NY hc hn hr he] at hs ⊢;exact my hs hk
end
end Go.Eu
namespace Go.Eu
theorem vZ {l:List Tm}{x:Tm}(h:l[0]?=some x):l.take 1=[x]:=by
 cases l with
 | nil=>simp at h
 | cons a l=>simp at h;subst h;rfl
theorem ok_one {x:Tm}(h:okB x=true):∀v∈[x],okB v=true:=fun v hv=>by rw[List.mem_singleton.1 hv];exact h
theorem R4 {x:Tm}:[x].length<549755813888:=by simp
end Go.Eu
namespace Go.Proofs.YtldfmjoncbjldaaGreat
open Go.Abs Go.Eu
theorem PQ:∀(m:Nat) (ds:List B8) (n:Int),(N3 n)→BL Tryz.prog 148 [.ptr m 0] [.box m [.p (.lst (List.map B1 ds)),.p (I n)]] (OP (fun(r:Unit)=> .tup []) (fun _=> .p (.iface 178 .unit)) (fun r H'=>H'=[.box m [.p (.lst (List.map B1 ds)),.p (I (n - 1))]]) (NJ n)):=by
 intro m ds n h1;have hn:=h1.1;have hn2:=h1.2;refine DI Tryz.func148 ?_;refine BC [13,0,0,0,0] rfl ?_ ?_<;>intro c
 ·exact A2 [1] O (My Ap O) (DS [0] O (T4 O O (Qk O) (⟨O,_,List.nil_sublist _,⟨_,u4 Au,O⟩⟩)))
 refine Ks [0] O ⟨O,_,_,O,(HB (is:=[0]) O),?_⟩;exact⟨(),vn Au,O,O⟩
theorem T9 : ∀ (m : Nat) (ds : List B8) (n : Int) (t : Tm) (vs : List Tm), (N3 n) → (okB t = true) → (∀ v ∈ vs, okB v = true) → (vs.length < 549755813888) → BL Tryz.prog 113 [.ptr m 0, .agg ((BD t).map .p), .p (.lst (A6 vs))] [.box m [.p (.lst (List.map B1 ds)), .p (I n)]] (OP (fun (r : Tm × Int) => TV r.1) (fun _ => .p (.iface 178 .unit)) (fun r H' => H' = [.box m [.p (.lst (List.map B1 ds)), .p (I r.2)]]) (K9 n (B9 t vs 0))) := by
 intro m ds n t vs h1 h2 h3 h4
 have hn := h1.1
 have hto := Bu.1 h2
 have hts := hto.sz
 have hvo := FF h3
 refine DI Tryz.func113 ?_
 refine CG [0] O O fun b4 => ?_
 refine Bp [0] O (Az Ba O) fun b6 => ?_
 refine DS [1] O ?_
 refine GZ [2] O O O (.inl ⟨O, O, O⟩) (PQ m ds n h1) ⟨_, _, O, O, O⟩ As (aw (we O) (HT)) (fun _ _ h => (congrArg List.length h).trans O) ?_ ?_
 rotate_left
 ·intro e _ he
  exact ⟨O, _, List.nil_sublist _, ⟨_, mV he, O⟩⟩
 rintro _ _ hz rfl
 refine BW (CQ [2, 1] O (jH t vs hto.nd hto.vp Au hvo.1 hvo.2.2.1 (fun v hv => by have := Ft (h3 v hv); simp only [Db]; omega) Ak) ?_)
 refine Bp [3] O (Az Ba O) fun b7 => ?_
 refine BC [4, 0, 1] rfl ?_ ?_ <;> intro c
 ·have hce := c
  refine A2 [1] O (My Ap O) ?_
  refine DS [0] O ?_
  refine T4 O O (Qk O) ?_
  exact ⟨O, _, List.nil_sublist _, ⟨_, uv Au h2 h3 h4 hce, O⟩⟩
 refine A9 [2, 0, 1, 1] O (Bg [1] [3] O O ⟨⟨(Hh t vs 0).1, n - 1⟩, vC hz h2 h3 h4 c, O, O⟩)
theorem NC:∀(l:List Tm),(l.length<549755813888)→BL Tryz.prog 154 [.p (.lst (A6 l))] [] (Zf (fun v=>v) 5 (A6 l)):=by
 intro l h1;refine DI Tryz.func154 (DS [2] O (EF O O (OB BS O O) ?_));rintro _ ⟨q,rfl,hq⟩;refine BW (BC [0] rfl ?_ ?_)<;>intro c
 ·refine CK [1] O (A5 (DH (t:=2) (sz:=5) O) (BP (A9 [0] O (Bg [] [0] O O ?_))));rw[show l=[] from List.length_eq_zero_iff.1 (by rw[←A8,hq c];rfl)]
  all_goals exact⟨_,_,rfl,rfl⟩
 refine DS [0] O (P7 O O (MO BS) fun b5 cp=>BW (DS [1] O ?_));refine ET O O (Bi (i:=0) (rows':=A6 l) BS BS Ba O O O O O O (Bd _) Aa (Hj [] l)) fun o cp1=>BW (A9 [1] O (Bg [] [0] O O ⟨_,_,O,O⟩))
theorem fQ:∀(m:Nat) (ds:List B8) (n:Int) (t:Tm) (vs:List Tm),(N3 n)→(okB t=true)→(∀v∈vs,okB v=true)→(vs.length<549755813888)→BL Tryz.prog 187 [.ptr m 0,.agg ((BD t).map .p),.p (.lst (A6 vs))] [.box m [.p (.lst (List.map B1 ds)),.p (I n)]] (OP (fun(r:Tm×Int)=>TV r.1) (fun _=> .p (.iface 178 .unit)) (fun r H'=>H'=[.box m [.p (.lst (List.map B1 ds)),.p (I r.2)]]) (K9 n (B9 t vs.reverse 0))):=by
 intro m ds n t vs h1 h2 h3 h4;refine DI Tryz.func187 (CG [0] O O fun b4=>Bp [0] O (Az Ba O) fun b6=>DS [1] O (Mj O O O (.inl ⟨O,O,O⟩) (NC vs h4) (.inl O) fun o cp=>BW (A2 [2] O (Bj [0] O (.inl ⟨O,O,O⟩) (kO vs o cp Ak) ⟨_,_,O,O,O⟩ As O (.inl O)) ?_)));refine DS [3,2] O (BH (CV (t:=9) (x:= .vs o (A6 vs.reverse).length cp) (CZ vs (l':=vs.reverse) Av)) (BH (CV (t:=7) (x:= .vs o (A6 vs.reverse).length cp) (CZ vs (l':=vs.reverse) Av)) (BH (CV (t:=10) (x:= .vs o (A6 vs.reverse).length cp) (CZ vs (l':=vs.reverse) Av)) (BH (CV (t:=14) (x:= .vs o (A6 vs.reverse).length cp) (CZ vs (l':=vs.reverse) Av)) (BH (CL (i:=0) [9,7,10,14] O (DA ⟨O,O,O,O,Aw⟩)) (GZ [2] O O O (.inl ⟨O,O,O⟩) (T9 m ds n t vs.reverse h1 h2 (ah h3) (by rw[List.length_reverse];exact h4)) ⟨_,_,O,O,O⟩ As (aw (we O) (aw (we O) (aw (we O) (HT)))) (fun _ _ h=>(congrArg List.length h).trans O) ?_ ?_))))))
 rotate_left
 ·intro e _ he;exact⟨O,_,List.nil_sublist _,⟨_,he,O⟩⟩
 rintro⟨z,n2⟩ _ hz rfl;refine BW (A9 [1,0,1] O (Bg [0] [2] O O ⟨⟨z,n2⟩,hz,O,O⟩))
theorem m6 : ∀ (m : Nat) (ds : List B8) (s : Int) (x : IJ) (g : Tm) (a : List Tm) (d : B8), (N3 s) → (ds[x.decl.toNat]? = some d) → (0 ≤ x.decl) → (DG d) → (okB g = true) → (a.length < 549755813888) → (EP CE d g a s ≠ .stuck) → BL Tryz.prog 150 [.ptr m 0, .agg ((GH x).map .p), .agg ((BD g).map .p), .p (.lst (A6 a))] [.box m [.p (.lst (List.map B1 ds)), .p (I s)]] (OP (fun (r : Option Tm × Int) => .tup [TV (r.1.getD BN), .p (.bool r.1.isSome)]) (fun _ => .p (.iface 178 .unit)) (fun r H' => H' = [.box m [.p (.lst (List.map B1 ds)), .p (I r.2)]]) ((EP CE d g a s).ex)) := by
 intro m ds s x g a d h1 h2 h3 h4 h5 h6 h7
 obtain ⟨gk, gi, gn, gl, gs⟩ := g
 have hgo := Bu.1 h5
 have hgl := hgo.nd
 simp only [Nd, Db] at hgl
 refine DI Tryz.func150 ?_
 refine CG [0] O O fun b5 => ?_
 refine CG [0] O O fun b6 => ?_
 refine Bp [0] O (Az Ba O) fun b8 => ?_
 refine E2 [1] [15] O ?_
 refine Bb [5, 3] O ?_
 refine CF (j := 2) O O O (fun H i hi => Ax (i := i) Dz O hi (EJ _)) AB Aw ?_
 refine A3 O (fun _ => A0 Qb O O Au (G4 h2) (DJ _)) Aw ?_
 refine A3 O (fun _ => DN Kc O O) Aw ?_
 refine A3 O (fun _ => Dh CN O (Fu _) (A7 _)) Aw ?_
 refine Bb [2, 1] O ?_
 refine A3 O (fun _ => BF O O (QH d.value gl (Bu.1 h4.vl).nd (Bu.1 h4.vl).vp (by have := Ft h4.vl; omega) hgl.2.1 hgl.2.2.1) O) Aw ?_
 refine Bb [3] O ?_
 refine Ge [] O O (Az Ba O) Ap fun b10 => ⟨AB, Aw, ?_⟩
 refine Dj [2, 0, 1] rfl (BC [2] rfl ?_ ?_) <;> intro c
 ·have hce := c
  refine CK [3, 1, 0] O ?_
  refine A5 (BE (i := 1) O) ?_
  refine BP (A9 [0] O (Bg [1] [4] O O ⟨⟨none, s⟩, Gy (Jv hce), O, O⟩))
 have hce := c
 refine DS [1] O ?_
 refine GZ [4] O O O (.inl ⟨O, O, O⟩) (PQ m ds s h1) ⟨_, _, O, O, O⟩ As (aw (we O) (HT)) (fun _ _ h => (congrArg List.length h).trans O) ?_ ?_
 rotate_left
 ·intro e _ he
  exact ⟨O, _, List.nil_sublist _, ⟨_, kj h7 hce he, O⟩⟩
 rintro _ _ hz rfl
 refine BW (CQ [2, 0] O (Fp ((BU d.value gl).1) a Ak) ?_)
 refine A9 [2, 1, 1] O (Bg [1] [4] O O ⟨⟨some (apply (BU d.value gl).1 a), s - 1⟩, Gy (lf h7 hce hz), O, O⟩)
theorem eB : ∀ (m : Nat) (ds : List B8) (s : Int) (d : B8) (g : Tm) (a : List Tm) (mm : Tm), (N3 s) → (MC ds) → (DG d) → (okB g = true) → (a.length < 549755813888) → (okB mm = true) → (Bv d < a.length) → (ER ds CE d g a mm s ≠ .stuck) → BL Tryz.prog 153 [.ptr m 0, .agg ((B1 d).map .p), .agg ((BD g).map .p), .p (.lst (A6 a)), .agg ((BD mm).map .p)] [.box m [.p (.lst (List.map B1 ds)), .p (I s)]] (OP (fun (r : Option Tm × Int) => .tup [TV (r.1.getD BN), .p (.bool r.1.isSome)]) (fun _ => .p (.iface 178 .unit)) (fun r H' => H' = [.box m [.p (.lst (List.map B1 ds)), .p (I r.2)]]) ((ER ds CE d g a mm s).ex)) := by
 intro m ds s d g a mm h1 h2 h3 h4 h5 h6 h7 h8
 obtain ⟨gk, gi, gn, gl, gs⟩ := g
 have hgo := Bu.1 h4
 have hgl := hgo.nd
 simp only [Nd, Db] at hgl
 have hnr := KK h3
 have hcl := h3.din.cl
 have hrl := h3.din.rl
 have hfx := h3.fx
 have hir := GM h3.din h3.fx
 refine DI Tryz.func153 ?_
 refine CG [0] O O fun b6 => ?_
 refine CG [0] O O fun b7 => ?_
 refine CG [0] O O fun b9 => ?_
 refine Bp [0] O (Az Ba O) fun b10 => ?_
 refine A2 [3, 1] O (Bj [4] O (.inl ⟨O, O, O⟩) (W7 m ds s mm h2 h6) ⟨_, _, O, O, O⟩ As O (.inl O)) ?_
 refine Bp [5] O (Az Ie O) fun b12 => ?_
 refine CI [4, 0, 1] 2 [0, 3, 6, 7, 10, 13, 14] 42 (((!((Bo ds mm).2.2.2)) || (!((((Bo ds mm).1).name).toList == d.name.toList))) || (decide (((Bo ds mm).2.1 : Int) ≥ ((d.recs.rules.length : Nat) : Int)))) O O ?_ ?_
 ·refine Bc [3] 28 rfl rfl ?_ ?_ <;> intro g1
  ·exact CT [14] O
  refine A2 [1] O (Ax (i := 0) N7 O O (DZ _)) ?_
  refine A2 [1] O (Ax (i := 4) N7 O O (DZ _)) ?_
  refine A2 [0] O (Js O O) ?_
  refine Bc [2] 35 rfl rfl ?_ ?_ <;> intro g2
  ·exact CT [7] O
  refine A2 [3] O (Ax (i := 4) JW O O (Cp _)) ?_
  refine CA [0] O O (A8 _) ?_
  exact CT [2] O
 refine BC [0] rfl ?_ ?_ <;> intro c
 ·have hib := aJ (S := CE) (h := (.mk gk gi gn gl gs : Tm)) (a := a) (s := s) c
  refine CK [3, 1, 0] O ?_
  refine A5 (BE (i := 1) O) ?_
  refine BP (A9 [0] O (Bg [1] [5] O O ⟨⟨none, s⟩, Gy hib, O, O⟩))
 obtain ⟨hg1, hg2, hg3⟩ := WM c
 have hg4 := c.2
 have hfl := JD h2 hg1
 refine E2 [0] [12] O ?_
 refine Bb [2] O ?_
 refine CF (j := 4) O O O (fun H i hi => Ax (i := i) JW O hi (Cp _)) AB Aw ?_
 refine A3 O (fun _ => Bh O) Aw ?_
 obtain ⟨x, hx⟩ := A1 (l := d.recs.rules) (i := ((Bo ds mm).2.1 : Int).toNat) Au
 have hro := h3.ru _ (List.mem_of_getElem? hx)
 refine A3 O (fun _ => A0 BS O O Au (BO hx) (A7 _)) Aw ?_
 refine Bb [3, 3] O ?_
 refine A3 O (fun _ => BF O O (QH x gl (Bu.1 hro).nd (Bu.1 hro).vp (by have := Ft hro; omega) hgl.2.1 hgl.2.2.1) O) Aw ?_
 refine Bb [3] O ?_
 refine Ge [] O O (Az Ba O) Ap fun b16 => ⟨AB, Aw, ?_⟩
 refine Dj [2, 0, 1] rfl (BC [2] rfl ?_ ?_) <;> intro c1
 ·have hce := c1
  refine CK [3, 2, 0] O ?_
  refine A5 (BE (i := 2) O) ?_
  refine BP (A9 [0] O (Bg [2] [6] O O ⟨⟨none, s⟩, Gy (Mp (h := (.mk gk gi gn gl gs : Tm)) hg1 hg2 hx hce), O, O⟩))
 have hce := c1
 refine DS [1] O ?_
 refine GZ [6] O O O (.inl ⟨O, O, O⟩) (PQ m ds s h1) ⟨_, _, O, O, O⟩ As (aw (we O) (HT)) (fun _ _ h => (congrArg List.length h).trans O) ?_ ?_
 rotate_left
 ·intro e _ he
  exact ⟨O, _, List.nil_sublist _, ⟨_, po (g := (.mk gk gi gn gl gs : Tm)) h8 hg1 hg2 hx hce he, O⟩⟩
 rintro _ _ hz rfl
 refine BW (E2 [0] [] O ?_)
 refine Bb [3, 0] O ?_
 refine CF (j := 5) O O O (fun H i hi => Ax (i := i) Dz O hi (Cr _)) AB Aw ?_
 refine Bb [2] O ?_
 refine CF (j := 5) O O O (fun H i hi => Ax (i := i) GC O hi (B5 _)) AB Aw ?_
 refine A3 O (fun _ => Ct Km O (List.length_map _)) Aw ?_
 refine A3 O (fun _ => Kd O O Au Au) Aw ?_
 refine A3 O (fun _ => Cn (lo := 0) (hi := (((d.fixed : Int) + (1 : Int) : Int) + ((d.ctors.length : Nat) : Int) : Int).toNat) BS O (CW (Bd _)) O ⟨_, pI Au⟩ (Nat.zero_le _) AZ (V4 a ((((d.fixed : Int) + (1 : Int) : Int) + ((d.ctors.length : Nat) : Int) : Int).toNat))) Aw ?_
 refine A3 O (fun _ => BF O O (Fp ((BU x gl).1) (a.take ((((d.fixed : Int) + (1 : Int) : Int) + ((d.ctors.length : Nat) : Int) : Int).toNat)) (by simp only [Db, List.length_take]; omega)) O) Aw ?_
 refine Dj [1, 0, 1] O (CQ [2, 0] O (Fp (apply ((BU x gl).1) (a.take ((((d.fixed : Int) + (1 : Int) : Int) + ((d.ctors.length : Nat) : Int) : Int).toNat))) ((Bo ds mm).2.2.1) Ak) ?_)
 refine E2 [1, 0, 1] [] O ?_
 refine Bb [3, 0, 5] O ?_
 refine A3 O (fun _ => BF O O (Ym d h3.din h3.fx) O) Aw ?_
 refine A3 O (fun _ => Kd O O Au Au) Aw ?_
 refine A3 O (fun _ => Cn (lo := ((Bv d : Int) + (1 : Int) : Int).toNat) BS O (CW (Bd _)) ⟨_, pI Au⟩ O AZ (Nat.le_refl _) (MR a (((Bv d : Int) + (1 : Int) : Int).toNat))) Aw ?_
 refine A3 O (fun _ => BF O O (Fp (apply (apply ((BU x gl).1) (a.take ((((d.fixed : Int) + (1 : Int) : Int) + ((d.ctors.length : Nat) : Int) : Int).toNat))) ((Bo ds mm).2.2.1)) (a.drop (((Bv d : Int) + (1 : Int) : Int).toNat)) Ab) O) Aw ?_
 refine Dj [2, 2, 1] O (A9 [0] O (Bg [2] [6] O O ⟨⟨some _, s - 1⟩, Gy (py (g := (.mk gk gi gn gl gs : Tm)) h8 hg1 hg2 hx hce hz), O, O⟩))
theorem pt : ∀ (m : Nat) (ds : List B8) (n : Int) (g p q : Tm), (N3 n) → (g.kind = 9 ∨ g.kind = 10) → (p.kids[(1 + g.kind - 9).toNat]? = some q) → BL Tryz.prog 114 [.ptr m 0, .agg ((BD g).map .p), .agg ((BD p).map .p)] [.box m [.p (.lst (List.map B1 ds)), .p (I n)]] (OP (fun (r : Tm × Int) => TV r.1) (fun _ => .p (.iface 178 .unit)) (fun r H' => H' = [.box m [.p (.lst (List.map B1 ds)), .p (I r.2)]]) (K9 n (q, 0))) := by
 intro m ds n g p q h1 h2 h3
 obtain ⟨gk, gi, gn, gl, gs⟩ := g
 obtain ⟨pk, pi, pn, pl, ps⟩ := p
 simp only [Tm.kind, Tm.kids] at h2 h3
 refine DI Tryz.func114 ?_
 refine CG [0] O O fun b4 => ?_
 refine CG [0] O O fun b5 => ?_
 refine Bp [0] O (Az Ba O) fun b6 => ?_
 refine DS [1] O ?_
 refine GZ [3] O O O (.inl ⟨O, O, O⟩) (PQ m ds n h1) ⟨_, _, O, O, O⟩ As (aw (we O) (HT)) (fun _ _ h => (congrArg List.length h).trans O) ?_ ?_
 rotate_left
 ·intro e _ he
  exact ⟨O, _, List.nil_sublist _, ⟨_, mV he, O⟩⟩
 rintro _ _ hz rfl
 refine BW (A2 [6, 1, 2] O (A0 BS O O Au (BO h3) (A7 _)) ?_)
 refine A9 [2, 0, 1] O (Bg [0] [3] O O ⟨⟨q, n - 1⟩, vN hz, O, O⟩)
theorem pK:∀(be:Nat) (ce:List AV),D8 Tryz.prog 111 [.ptr be 0] (.ret) [.box be ce] (fun H'=>H'=[.box be ce]):=by
 intro be ce;refine GQ (ty2:=0) Tryz.func111 O rN (n:=14) O O O O O O (BQ (D3 O (BA O (Fb Wu O O O) (Ch O ?_))));refine BX O (fun c=>by cases c) (fun c=>?_);exact Bn ⟨.inl O,O,_,(HB (is:=[0]) O),O⟩
theorem oH:∀(be:Nat),D8 Tryz.prog 111 [.ptr be 0] (.pan (.p (.iface 178 (.unit)))) [.box be [.p (I 0)]] (fun H'=>H'=[.box be [.p (I 11)]]):=by
 intro be;refine GQ (ty2:=0) Tryz.func111 O rN (n:=14) O O O O O O (BQ (D3 O (BA O (Fb Wu O O O) (Ch O ?_))));refine BX O (fun c=>?_) (fun c=>by cases c);refine BZ tab 1 [0,0] O (BQ (D3 O (BA O (Z3 Ap O) (BT tab 3 [] O (C8 O (Az wh O) fun b2=>BA O (UM um O O) (BK tab 1 [] O (BZ tab 2 [] O ?_)))))));refine BX O (fun c1=>by cases c1) (fun c1=>?_);exact Bn ⟨.inl O,O,_,(HB (is:=[1]) O),O⟩
theorem nt:∀{α:Type}(x:Except Int α) (a:α) (hx:x= .ok a) (cn:α→Int) (G:α→List A4) (fid:Nat) (caps:List AV) (T:List A4) (ds:List B8) (hf:∀m,BL Tryz.prog fid ([.ptr m 0]++caps) (.box m [.p (.lst (List.map B1 ds)),.p (I 20000)]::T) (OP (fun _=> .tup []) (fun _=> .p (.iface 178 .unit)) (fun a H'=>H'= .box m [.p (.lst (List.map B1 ds)),.p (I (cn a))]::G a) x)),BL Tryz.prog 65 [.p (.lst (List.map B1 ds)),.fn (.func fid) [] caps] T (Gm (.p (I 0)) (G a)):=by
 intro α x a hx cn G fid caps T ds hf;refine Em Tryz.func65 O uo (n:=11) O O (BQ (C8 O (Az a8 O) fun b4=>Ch O (BQ (BA O (EK O O) (LK O O O O (Ch O (BQ (BT tab 3 [] O (C8 O (Dk O) fun b9=>IZ (List.Perm.swap _ _ _) (JE [_] O O O (.inr O) (hf b9) (Dt _) ?_ ?_))))))))))
 rotate_left
 ·rintro v T2 ⟨e2,h1,_⟩;rw[hx] at h1;cases h1
 rintro v T2 ⟨a2,h1,rfl,rfl⟩;rw[hx] at h1;cases h1;refine Ch O (BZ tab 1 [0,0] O (CB ⟨_,[_],_,O,List.Perm.refl _,D8.eq (pK b4 _) ?_⟩));refine⟨_,_,⟨_,_,O,(F9 (i:=0) QN O O),O⟩,(Et [] [_,_] O),?_⟩
 all_goals exact⟨rfl,rfl⟩
theorem j7:∀{α:Type}(x:Except Int α) (e:Int) (hx:x= .error e) (cn:α→Int) (G:α→List A4) (fid:Nat) (caps:List AV) (T:List A4) (ds:List B8) (hf:∀m,BL Tryz.prog fid ([.ptr m 0]++caps) (.box m [.p (.lst (List.map B1 ds)),.p (I 20000)]::T) (OP (fun _=> .tup []) (fun _=> .p (.iface 178 .unit)) (fun a H'=>H'= .box m [.p (.lst (List.map B1 ds)),.p (I (cn a))]::G a) x)),BL Tryz.prog 65 [.p (.lst (List.map B1 ds)),.fn (.func fid) [] caps] T (Gm (.p (I 11)) []):=by
 intro α x e hx cn G fid caps T ds hf;refine Em Tryz.func65 O uo (n:=11) O O (BQ (C8 O (Az a8 O) fun b4=>Ch O (BQ (BA O (EK O O) (LK O O O O (Ch O (BQ (BT tab 3 [] O (C8 O (Dk O) fun b9=>IZ (List.Perm.swap _ _ _) (JE [_] O O O (.inr O) (hf b9) (Dt _) ?_ ?_))))))))))
 ·rintro v T2 ⟨a2,h1,_⟩;rw[hx] at h1;cases h1
 rintro v T2 ⟨e2,h1,rfl⟩;refine⟨_,_,_,O,K6 (is:=[0]) _ As ⟨_,_,O,O,O⟩,D8.eq (oH b4) ?_⟩;refine⟨_,[],⟨_,_,O,(F9 (i:=0) QN O O),O⟩,(List.nil_sublist _),?_⟩;exact⟨O,O⟩
end Go.Proofs.YtldfmjoncbjldaaGreat
namespace Go.Eu
open Go.Abs
structure Lt (c:Dn):Prop where
 ov:c.over=false
 lm:c.limit=1000
 s0:0≤c.steps
 s1:c.steps≤1000
 n0:0≤c.nodes
 n1:c.nodes≤2000
theorem jT:Lt G0:=⟨rfl,rfl,by decide,by decide,by decide,by decide⟩
theorem Lh:kA DK (fun a b=>b.over=false→a.over=false):=by
 refine⟨fun s h=>h,fun h1 h2 h=>h1 (h2 h),fun h hb=>?_⟩;simp only[DK,Option.some.injEq] at h;subst h;simp only[Dn.result,Dn.form,Bool.or_eq_false_iff] at hb;exact hb.1
theorem su {c:Dn}{t:Tm}{e:Int}(h:Lt c) (ho:okB t=true) (hv:(c.result t e).over=false):e=0∧Lt (c.result t e)∧(c.result t e).steps=c.steps+1∧(c.result t e).nodes=c.nodes+size t:=by
 have hs:=Ft ho;have h1:=h.s0;have h2:=h.s1;have h3:=h.n0;have h4:=h.n1;have h5:=h.lm;have hw:wr (c.steps+1)=c.steps+1:=ES (by unfold JY;omega);have hz:FG t=size t:=Pv Au;have hw2:wr (c.nodes+size t)=c.nodes+size t:=ES (by unfold JY;omega);have hw3:wr (2*1000)=2000:=ES (by unfold JY;omega);have hv':=hv;simp only[Dn.result,Dn.form,hw,hz,hw2,h5,hw3,Bool.or_eq_false_iff,decide_eq_false_iff_not,bne_eq_false_iff_eq] at hv';have hst:(c.result t e).steps=c.steps+1:=by simp only[Dn.result,Dn.form,hw]
 have hnd:(c.result t e).nodes=c.nodes+size t:=by simp only[Dn.result,Dn.form,hz,hw2]
 exact⟨by omega,⟨hv,by simp only[Dn.result,Dn.form,h5],by omega,by omega,by omega,by omega⟩,hst,hnd⟩
theorem LD {α:Type}{c:Dn}{x:Tm×Int}{k:Tm→Dn→Out (α×Dn)}{k':Tm→Int→Out (α×Int)}{q:α}{c':Dn}(hL:Lt c) (hk:∀t c1 q c2,k t c1= .ok (q,c2)→c2.over=false→c1.over=false) (hq:DK.put c x k= .ok (q,c')) (hv:c'.over=false) :
  okB x.1=true∧Lt (c.result x.1 x.2)∧(c.result x.1 x.2).steps=c.steps+1∧(c.result x.1 x.2).nodes=c.nodes+size x.1∧k x.1 (c.result x.1 x.2)= .ok (q,c')∧∀l:Int,1000 - c.steps≤l→CE.put l x k'=k' x.1 (l - 1):=by
 obtain⟨h1,h2⟩:=IM (h:=(by rw[hq];simp));rw[h2] at hq;obtain⟨h3,h4,h5,h6⟩:=su hL h1 (hk _ _ _ _ hq hv);refine⟨h1,h4,h5,h6,hq,fun l hl=>?_⟩;have:=h4.s1;unfold Sys.put;rw[if_pos h1];simp only[CE];rw[if_neg Au]
section
variable {E:List B8}
structure cZ (c c':Dn) (z z':Nat):Prop where
 lt:Lt c'
 st:c.steps≤c'.steps
 nd:c.nodes≤c'.nodes
 sz:(z':Int)≤z+(c'.nodes - c.nodes)
def SW (n:Nat) (W:Dn→Tm→Out (Tm×Dn)) (V:Int→Tm→Out (Tm×Int)):Prop:=∀c t r c',Lt c→W c t= .ok (r,c')→c'.over=false→(size t:Int)≤30000+c.nodes →
 cZ c c' (size t) (size r)∧∀l:Int,1000 - c.steps≤l→V l t= .ok (r,l - (c'.steps - c.steps))
variable {n:Nat}{W:Dn→Tm→Out (Tm×Dn)}{V:Int→Tm→Out (Tm×Int)}
theorem WN (hW:SW n W V) (hO:∀c t r c',W c t= .ok (r,c')→c'.over=false→c.over=false):∀(k:Nat) (t:FY) (vs:List Tm) (la:Tm) (c c':Dn) (q:Option (Tm×List Tm)×Tm),Lt c→EA E DK W k t vs la c= .ok (q,c')→c'.over=false→(∀v∈vs,(size v:Int)≤30000+c.nodes)→(size la:Int)≤30000+c.nodes →
  cZ c c' 0 0∧(q.1=none→(size q.2:Int)≤30000+c'.nodes)∧∀l:Int,1000 - c.steps≤l→EA E CE V k t vs la l= .ok (q,l - (c'.steps - c.steps))
 | 0,t,vs,la,c,c',q,hL,h,hv,hz,hla=>by rw[EA] at h;cases h
 | k+1,t,vs,la,c,c',q,hL,h,hv,hz,hla=>by
  have self:cZ c c 0 0:=⟨hL,Int.le_refl _,Int.le_refl _,by simp⟩;by_cases hk:t.kind=1
  ·by_cases hb:t.var<0∨t.var≥(vs.length:Int)
   ·have hb1:t.var<0∨t.var≥(vs.length:Int)∨DK.over c=true:=by rcases hb with h | h;exact .inl h;exact .inr (.inl h)
    rw[KT hk hb1] at h;cases h;refine⟨self,fun _=>hla,fun l hl=>?_⟩;rw[KT hk (by rcases hb with h | h;exact .inl h;exact .inr (.inl h)),Int.sub_self,Int.sub_zero]
   have hb1:¬(t.var<0∨t.var≥(vs.length:Int)∨DK.over c=true):=by
    have:DK.over c=false:=hL.ov;rw[this];simp;omega
   have hb2:∀l,¬(t.var<0∨t.var≥(vs.length:Int)∨CE.over l=true):=fun l=>by simp[CE];omega
   have hlt:t.var.toNat<vs.length:=by omega
   have hx:=List.getElem?_eq_getElem hlt;have hxm:=List.getElem_mem hlt;rw[L4 hk hb1 hx] at h;obtain⟨⟨r,c1⟩,h1,h2,h3⟩:=HA h;have hv1:c1.over=false:=by
    cases hc:Ce E r with
    | none=>rw[G7 hc] at h3;cases h3;exact hv
    | some p =>
     obtain⟨d,j,f⟩:=p;cases hbr:Cl (EM d j).name t.branches with
     | none=>rw[JK hc hbr] at h3;cases h3;exact hv
     | some t' =>
      rw[JM hc hbr] at h3;exact T7 Lh (fun s t q e=>by obtain⟨r',c''⟩:=q;exact hO _ _ _ _ e) _ _ _ _ _ _ h3 hv
   obtain⟨p1,p2⟩:=hW _ _ _ _ hL h1 hv1 (hz _ hxm);have q1:=p1.st;have q2:=p1.nd;have q3:=p1.sz;have q4:=hz _ hxm;have hr:(size r:Int)≤30000+c1.nodes:=by omega
   have hone:cZ c c1 0 0:=⟨p1.lt,p1.st,p1.nd,by simp;omega⟩;have hg:∀l:Int,1000 - c.steps≤l→EA E CE V (k+1) t vs la l=RL E CE V k t vs (r,l - (c1.steps - c.steps)):=fun l hl=>by
    rw[L4 hk (hb2 l) hx,p2 l hl];simp only[Out.chk,Out.bind];rw[if_pos h2]
   cases hc:Ce E r with
   | none =>
    rw[G7 hc] at h3;cases h3;exact⟨hone,fun _=>hr,fun l hl=>by rw[hg l hl,G7 hc]⟩
   | some p =>
    obtain⟨d,j,f⟩:=p;cases hbr:Cl (EM d j).name t.branches with
    | none =>
     rw[JK hc hbr] at h3;cases h3;exact⟨hone,fun _=>hr,fun l hl=>by rw[hg l hl,JK hc hbr]⟩
    | some t' =>
     rw[JM hc hbr] at h3;obtain⟨hf,_⟩:=JQ hc h2;obtain⟨s1,s2,s3⟩:=WN hW hO k t' (vs++f) r c1 c' q p1.lt h3 hv (fun v hm=>by
      rcases List.mem_append.1 hm with hm | hm
      ·have:=hz v hm;omega
      have:=(hf v hm).2;omega) hr
     have e1:=s1.st;have e2:=s1.nd;refine⟨⟨s1.lt,by omega,by omega,by simp;omega⟩,s2,fun l hl=>?_⟩;rw[hg l hl,JM hc hbr];have:=s3 (l - (c1.steps - c.steps)) Au;simp only;rw[this];congr 2;omega
  rw[Is hk] at h;cases h;exact⟨self,(fun e=>by cases e),fun l hl=>by rw[Is hk,Int.sub_self,Int.sub_zero]⟩
structure jA (c c':Dn) (z:Nat) (q:Option Tm):Prop where
 lt:Lt c'
 st:c.steps≤c'.steps
 nd:c.nodes≤c'.nodes
 sz:∀x,q=some x→(size x:Int)≤z+(c'.nodes - c.nodes)
theorem im {d:B8}{g m:Tm}{a:List Tm}{c c':Dn}{q:Option Tm}(hL:Lt c) (h:ER E DK d g a m c= .ok (q,c')) (hv:c'.over=false):jA c c' (BB a+a.length) q∧∀l:Int,1000 - c.steps≤l→ER E CE d g a m l= .ok (q,l - (c'.steps - c.steps)):=by
 have self:jA c c (BB a+a.length) none:=⟨hL,Int.le_refl _,Int.le_refl _,fun x e=>by cases e⟩;cases hc:Ce E m with
 | none=>rw[Nc hc] at h;cases h;exact⟨self,fun l hl=>by rw[Nc hc,Int.sub_self,Int.sub_zero]⟩
 | some p =>
  obtain⟨e,j,f⟩:=p;by_cases hn:e.name≠d.name∨j≥(d.recs.rules.length:Int)
  ·rw[SJ hc hn] at h;cases h;exact⟨self,fun l hl=>by rw[SJ hc hn,Int.sub_self,Int.sub_zero]⟩
  have hlo:=(Fy hc).lo;have hlt:j.toNat<d.recs.rules.length:=by omega
  have hr:=List.getElem?_eq_getElem hlt;by_cases he:(BU d.recs.rules[j.toNat] g.levels).2=0
  ·rw[NY hc hn hr he] at h;obtain⟨h1,h2,h3,h4,h5,h6⟩:=LD hL (fun t c1 q c2 e hv=>by cases e;exact hv) h hv (k':=fun t s'=> .ok (some (apply t (a.drop (Bv d+1).toNat)),s'));simp only at h3 h4 h5;cases h5;have u:=Cm (a.drop (Bv d+1).toNat) (apply (apply (BU d.recs.rules[j.toNat] g.levels).1 (a.take (d.fixed+1+d.ctors.length).toNat)) f);have u2:=DE a (Bv d+1).toNat;have u3:(a.drop (Bv d+1).toNat).length≤a.length:=by rw[List.length_drop];omega
   refine⟨⟨h2,by omega,by omega,fun x e=>?_⟩,fun l hl=>?_⟩
   ·cases e;have:((BB a+a.length:Nat):Int)=BB a+a.length:=by omega
    omega
   rw[NY hc hn hr he,h6 l hl];congr 2;omega
  rw[Mp hc hn hr he] at h;cases h;exact⟨self,fun l hl=>by rw[Mp hc hn hr he,Int.sub_self,Int.sub_zero]⟩
theorem dF {d:B8}{g:Tm}{a:List Tm}{c c':Dn}{q:Option Tm}(hL:Lt c) (h:EP DK d g a c= .ok (q,c')) (hv:c'.over=false):jA c c' (BB a+a.length) q∧∀l:Int,1000 - c.steps≤l→EP CE d g a l= .ok (q,l - (c'.steps - c.steps)):=by
 by_cases he:(BU d.value g.levels).2=0
 ·rw[KD he] at h;obtain⟨h1,h2,h3,h4,h5,h6⟩:=LD hL (fun t c1 q c2 e hv=>by cases e;exact hv) h hv (k':=fun t s'=> .ok (some (apply t a),s'));simp only at h3 h4 h5;cases h5;have u:=Cm a (BU d.value g.levels).1;refine⟨⟨h2,by omega,by omega,fun x e=>by cases e;omega⟩,fun l hl=>?_⟩;rw[KD he,h6 l hl];congr 2;omega
 rw[Jv he] at h;cases h;exact⟨⟨hL,Int.le_refl _,Int.le_refl _,fun x e=>by cases e⟩,fun l hl=>by rw[Jv he,Int.sub_self,Int.sub_zero]⟩
theorem iC {g b:Tm}{vs a:List Tm}{c c':Dn}{q:Option Tm}(hL:Lt c) (h:FE DK g b vs a c= .ok (q,c')) (hv:c'.over=false):jA c c' (BB a+a.length) q∧∀l:Int,1000 - c.steps≤l→FE CE g b vs a l= .ok (q,l - (c'.steps - c.steps)):=by
 by_cases he:(BU b g.levels).2=0
 ·have hg:∀{σ:Type} (S:Sys σ) (s:σ),FE S g b vs a s=if okB (BU b g.levels).1=false∨vs.all okB=false∨1125899906842624≤BB vs then .stuck else S.put s (B9 (BU b g.levels).1 vs.reverse 0) fun t s'=> .ok (some (apply t a),s'):=fun S s=>by rw[FE,if_neg Au]
  rw[hg] at h;split at h
  ·cases h
  rename_i hn;obtain⟨h1,h2,h3,h4,h5,h6⟩:=LD hL (fun t c1 q c2 e hv=>by cases e;exact hv) h hv (k':=fun t s'=> .ok (some (apply t a),s'));cases h5;have u:=Cm a (B9 (BU b g.levels).1 vs.reverse 0).1;refine⟨⟨h2,by omega,by omega,fun x e=>by cases e;omega⟩,fun l hl=>?_⟩;rw[hg,if_neg hn,h6 l hl];congr 2;omega
 rw[KE he] at h;cases h;exact⟨⟨hL,Int.le_refl _,Int.le_refl _,fun x e=>by cases e⟩,fun l hl=>by rw[KE he,Int.sub_self,Int.sub_zero]⟩
end
section
variable {E:List B8}{n:Nat}
theorem SI {c:Dn}{z:Nat}(hL:Lt c):jA c c z none:=⟨hL,Int.le_refl _,Int.le_refl _,fun x e=>by cases e⟩
theorem cc (hE:MC E) {W:Dn→Tm→Out (Tm×Dn)}{V:Int→Tm→Out (Tm×Int)}(hW:SW n W V) (hO:∀c t r c',W c t= .ok (r,c')→c'.over=false→c.over=false) {g:Tm}{a:List Tm}{c c':Dn}{q:Option Tm}(hL:Lt c) (h:Dc E DK W n g a c= .ok (q,c')) (hv:c'.over=false) (hz:(BB a+a.length:Int)≤30000+c.nodes) (h1z:1≤30000+c.nodes) :
  jA c c' (BB a+a.length) q∧∀l:Int,1000 - c.steps≤l→Dc E CE V n g a l= .ok (q,l - (c'.steps - c.steps)):=by
 cases hu:Up E g with
 | false=>rw[L2 hu] at h;cases h;exact⟨SI hL,fun l hl=>by rw[L2 hu,Int.sub_self,Int.sub_zero]⟩
 | true =>
  obtain⟨i,d,e1,e2,hd,e4⟩:=KI hu;have hg:=hE.all d hd;have hnr:=KK hg;by_cases k1:(BY E g.name).1.kind=1
  ·rw[Jr hu e4 k1] at h;obtain⟨s1,s2⟩:=dF hL h hv;exact⟨s1,fun l hl=>by rw[Jr hu e4 k1];exact s2 l hl⟩
  by_cases k5:(BY E g.name).1.kind=5
  ·rw[Jw hu e4 k5] at h;by_cases hl:(a.length:Int)≤Bv d
   ·rw[Rv hl] at h;cases h;exact⟨SI hL,fun l hl2=>by rw[Jw hu e4 k5,Rv hl,Int.sub_self,Int.sub_zero]⟩
   have hlt:(Bv d).toNat<a.length:=by omega
   have hy:=List.getElem?_eq_getElem hlt;have hys:=FI (List.getElem_mem hlt);rw[Xc hl hy] at h;obtain⟨⟨r,c1⟩,h1,h2,h3⟩:=HA h;have hv1:c1.over=false:=YT Lh h3 hv;obtain⟨p1,p2⟩:=hW _ _ _ _ hL h1 hv1 Au;obtain⟨s1,s2⟩:=im p1.lt h3 hv;have a1:=p1.st;have a2:=p1.nd;have a3:=s1.st;have a4:=s1.nd;refine⟨⟨s1.lt,by omega,by omega,fun x e=>by have:=s1.sz x e;omega⟩,fun l hl2=>?_⟩;rw[Jw hu e4 k5,Xc hl hy,p2 l hl2];simp only[Out.chk,Out.bind];rw[if_pos h2,s2 _ Au];congr 2;omega
  by_cases k6:(BY E g.name).1.kind=6
  ·obtain⟨k,f,h4,h5⟩:=e2.func k6;have hff:d.funs[(BY E g.name).1.item.toNat]?=some f:=by rw[h5];simpa using h4
   rw[Iq hu e4 k6 hff] at h;by_cases hl:(a.length:Int)<f.arity
   ·rw[NU hl] at h;cases h;exact⟨SI hL,fun l hl2=>by rw[Iq hu e4 k6 hff,NU hl,Int.sub_self,Int.sub_zero]⟩
   rw[NT hl] at h;obtain⟨⟨lq,c1⟩,h1,h2⟩:=D9 h;have hts:=DE a f.arity.toNat;have hdl:(a.drop f.arity.toNat).length≤a.length:=by rw[List.length_drop];omega
   have hz0:size BN=1:=rfl;have hv1:c1.over=false:=by
    cases ho:c1.over with
    | false=>rfl
    | true=>rw[Lb (.inr ho)] at h2;cases h2;rw[ho] at hv;cases hv
   obtain⟨p1,p2,p3⟩:=WN hW hO n f.tree (a.take f.arity.toNat) BN c c1 lq hL h1 hv1 (fun v hm=>by have:=FI (List.mem_of_mem_take hm);omega) Au;have a1:=p1.st;have a2:=p1.nd;cases hs:lq.1.isSome with
   | false =>
    rw[Lb (.inl hs)] at h2;cases h2;refine⟨⟨p1.lt,a1,a2,fun x e=>by cases e⟩,fun l hl2=>?_⟩;rw[Iq hu e4 k6 hff,NT hl,p3 l hl2];simp only[Out.bind];rw[Lb (.inl hs)]
   | true =>
    rw[OM hs hv1] at h2;obtain⟨s1,s2⟩:=iC p1.lt h2 hv;have a3:=s1.st;have a4:=s1.nd;refine⟨⟨s1.lt,by omega,by omega,fun x e=>by have:=s1.sz x e;omega⟩,fun l hl2=>?_⟩;rw[Iq hu e4 k6 hff,NT hl,p3 l hl2];simp only[Out.bind];rw[OM hs rfl,s2 _ Au];congr 2;omega
  rw[Pt hu k1 k5 k6] at h;cases h;exact⟨SI hL,fun l hl=>by rw[Pt hu k1 k5 k6,Int.sub_self,Int.sub_zero]⟩
theorem Fi {n:Nat}{c c':Dn}{t r:Tm}(h:FM E DK n c t= .ok (r,c')) (hv:c'.over=false):c.over=false:=XH Lh n c t _ h hv
theorem dZ (hE:MC E):∀n,SW n (FM E DK n) (FM E CE n)
 | 0=>fun c t r c' hL h _ _=>by rw[FM] at h;cases h
 | n+1=>fun c t r c' hL h hv hz=>by
  have ih:=dZ hE n;have ho:=bP h Av;have hov:DK.over c=false:=hL.ov;have hov2:∀l,CE.over l=false:=fun _=>rfl;have hmr:DK.many (Ay t).2.length=false:=rfl;have hss:=EL t;have hsp:=size_pos (Ay t).1;have n0:=hL.n0;have n1:=hL.n1;have hmp:CE.many (Ay t).2.length=false:=by simp only[CE];exact decide_eq_false Au
  obtain⟨oh,oa⟩:=DB ho;have self:cZ c c (size t) (size t):=⟨hL,Int.le_refl _,Int.le_refl _,by omega⟩
  -- what follows a contraction
  have cont:∀(x:Tm) (c1:Dn) (k':Int→Out (Tm×Int)),Lt c1→c.steps+1≤c1.steps→c.nodes≤c1.nodes→(size x:Int)≤size t+(c1.nodes - c.nodes)→FM E DK n c1 x= .ok (r,c')→(∀l:Int,1000 - c.steps≤l→k' l=FM E CE n (l - (c1.steps - c.steps)) x)→cZ c c' (size t) (size r)∧∀l:Int,1000 - c.steps≤l→k' l= .ok (r,l - (c'.steps - c.steps)):=by
   intro x c1 k' g1 g2 g3 g4 g5 g6;obtain⟨p1,p2⟩:=ih _ _ _ _ g1 g5 hv Au;have a1:=p1.st;have a2:=p1.nd;have a3:=p1.sz;refine⟨⟨p1.lt,by omega,by omega,by omega⟩,fun l hl=>?_⟩;rw[g6 l hl,p2 _ Au];congr 2;omega
  by_cases k5:(Ay t).1.kind=5
  ·by_cases hl:(Ay t).2.length=0
   ·rw[MI ho hov hmr k5 hl] at h;cases h;exact⟨self,fun l _=>by rw[MI ho (hov2 l) hmp k5 hl,Int.sub_self,Int.sub_zero]⟩
   obtain⟨b,hb,_⟩:=ED oh (i:=1) (by rw[k5];decide);rw[UH ho hov hmr k5 hl hb] at h;obtain⟨h1,h2,h3,h4,h5,h6⟩:=LD hL (fun t c1 q c2 e hv=>Fi e hv) h hv (k':=fun x s'=>FM E CE n s' (apply x ((Ay t).2.drop 1)));have u:=Cm ((Ay t).2.drop 1) (B9 b ((Ay t).2.take 1) 0).1;have u2:=DE (Ay t).2 1;have u3:((Ay t).2.drop 1).length≤(Ay t).2.length:=by rw[List.length_drop];omega
   refine cont _ _ _ h2 Au Au Au h5 fun l hl2=>?_;rw[UH ho (hov2 l) hmp k5 hl hb,h6 l hl2];congr 1;omega
  by_cases k11:(Ay t).1.kind=11
  ·obtain⟨v,hvk,_⟩:=ED oh (i:=1) (by rw[k11];decide);obtain⟨b,hb,_⟩:=ED oh (i:=2) (by rw[k11];decide);rw[Ta ho hov hmr k11 hvk hb] at h;obtain⟨h1,h2,h3,h4,h5,h6⟩:=LD hL (fun t c1 q c2 e hv=>Fi e hv) h hv (k':=fun x s'=>FM E CE n s' (apply x (Ay t).2));have u:=Cm (Ay t).2 (B9 b [v] 0).1;refine cont _ _ _ h2 Au Au Au h5 fun l hl2=>?_;rw[Ta ho (hov2 l) hmp k11 hvk hb,h6 l hl2];congr 1;omega
  by_cases k9:(Ay t).1.kind=9∨(Ay t).1.kind=10
  ·obtain⟨p,hpk,op,sp⟩:=ED oh (i:=0) (by rcases k9 with h | h<;>rw[h]<;>decide);rw[LY ho hov hmr k9 hpk] at h;obtain⟨⟨r1,c1⟩,h1,h2,h3⟩:=HA h;have hg:∀l:Int,1000 - c.steps≤l→c1.over=false→FM E CE (n+1) l t=RW E CE n (Ay t).1 (Ay t).2 (r1,l - (c1.steps - c.steps)):=fun l hl hv1=>by
    obtain⟨p1,p2⟩:=ih _ _ _ _ hL h1 hv1 Au;rw[LY ho (hov2 l) hmp k9 hpk,p2 l hl];simp only[Out.chk,Out.bind];rw[if_pos h2]
   by_cases k8:r1.kind=8
   ·have har:arity 8=3:=rfl;obtain⟨y,hy,oy,sy⟩:=ED h2 (i:=(1+(Ay t).1.kind - 9).toNat) (by show _<arity r1.kind;rw[k8,har];omega);rw[Pr (r:=(r1,c1)) k8 hy] at h3;have hv1:c1.over=false:=by
     have:=Lo Lh (s:=c1) (fun t c1 q e hv=>Fi e hv) h3;exact this hv
    obtain⟨p1,p2⟩:=ih _ _ _ _ hL h1 hv1 Au;obtain⟨q1,q2,q3,q4,q5,q6⟩:=LD p1.lt (fun t c1 q c2 e hv=>Fi e hv) h3 hv (k':=fun x s'=>FM E CE n s' (apply x (Ay t).2));have u:=Cm (Ay t).2 y;have a1:=p1.st;have a2:=p1.nd;have a3:=p1.sz;simp only at q3 q4 q5 sy;refine cont (apply y (Ay t).2) (c1.result y 0) _ q2 Au Au Au q5 fun l hl2=>?_;rw[hg l hl2 hv1,Pr (r:=(r1,l - (c1.steps - c.steps))) k8 hy,q6 _ Au];congr 1;simp only;omega
   rw[KF (r:=(r1,c1)) k8] at h3;cases h3;obtain⟨p1,p2⟩:=ih _ _ _ _ hL h1 hv Au;have a1:=p1.st;have a2:=p1.nd;have a3:=p1.sz;have u:=Cm (Ay t).2 (Ha (Ay t).1.kind r1);have u2:size (Ha (Ay t).1.kind r1)=1+size r1:=by simp only[Ha,size,BB];omega
   refine⟨⟨p1.lt,a1,a2,by simp only;omega⟩,fun l hl=>?_⟩;rw[hg l hl hv,KF (r:=(r1,l - (c1.steps - c.steps))) k8]
  by_cases k3:(Ay t).1.kind=3
  ·rw[JG ho hov hmr k3] at h;obtain⟨⟨q,c1⟩,h1,h2⟩:=D9 h;have hv1:c1.over=false:=by
    cases hq:q.isSome with
    | false=>rw[SZ hq] at h2;cases h2;exact hv
    | true=>rw[Sb hq] at h2;exact Fi h2 hv
   obtain⟨s1,s2⟩:=cc hE ih (fun c t r c' e hv=>Fi e hv) hL h1 hv1 Au Au;have a1:=s1.st;have a2:=s1.nd;cases hq:q.isSome with
   | false =>
    rw[SZ hq] at h2;cases h2;refine⟨⟨s1.lt,a1,a2,by omega⟩,fun l hl=>?_⟩;rw[JG ho (hov2 l) hmp k3,s2 l hl];simp only[Out.bind];rw[SZ hq]
   | true =>
    rw[Sb hq] at h2;obtain⟨x,rfl⟩:=Option.isSome_iff_exists.1 hq;have a3:=s1.sz x rfl;simp only[Option.getD_some] at h2;obtain⟨p1,p2⟩:=ih _ _ _ _ s1.lt h2 hv Au;have b1:=p1.st;have b2:=p1.nd;have b3:=p1.sz;refine⟨⟨p1.lt,by omega,by omega,by omega⟩,fun l hl=>?_⟩;rw[JG ho (hov2 l) hmp k3,s2 l hl];simp only[Out.bind];rw[Sb rfl];simp only[Option.getD_some];rw[p2 _ Au];congr 2;omega
  have k9a:(Ay t).1.kind≠9:=fun e=>k9 (.inl e);have k9b:(Ay t).1.kind≠10:=fun e=>k9 (.inr e);rw[Sk ho hov hmr k5 k11 k9a k9b k3] at h;cases h;exact⟨self,fun l _=>by rw[Sk ho (hov2 l) hmp k5 k11 k9a k9b k3,Int.sub_self,Int.sub_zero]⟩
end
section
variable {E:List B8}
end
section
variable {E:List B8}
end
section
variable {E:List B8}
def LW (W:Int→Tm→Out (Tm×Int)):Prop:=∀l t r l' k,0≤k→W l t= .ok (r,l')→W (l+k) t= .ok (r,l'+k)
theorem K5 {α:Type}{l l' k:Int}{x:Tm×Int}{f:Tm→Int→Out (α×Int)}{q:α}(hk:0≤k) (hf:∀t s q s',f t s= .ok (q,s')→f t (s+k)= .ok (q,s'+k)) (h:CE.put l x f= .ok (q,l')):CE.put (l+k) x f= .ok (q,l'+k):=by
 unfold Sys.put at h ⊢;split at h
 ·rename_i ho;rw[if_pos ho];simp only[CE] at h ⊢;by_cases c:l - 1<0∨x.2≠0
  ·rw[if_pos c] at h;cases h
  rw[if_neg c] at h;rw[if_neg Au];have:=hf _ _ _ _ h;rw[show l+k - 1=l - 1+k by omega];exact this
 cases h
theorem QR {f:Tm→Tm}{k:Int}:∀(t:Tm) (s:Int) (q:Option Tm) (s':Int),(Out.ok (some (f t),s):Out (Option Tm×Int))= .ok (q,s')→(Out.ok (some (f t),s+k):Out (Option Tm×Int))= .ok (q,s'+k):=fun t s q s' h=>by cases h;rfl
theorem WU {W:Int→Tm→Out (Tm×Int)}(hW:LW W) {k:Int}(hk:0≤k):∀(m:Nat) (t:FY) (vs:List Tm) (la:Tm) (l l':Int) (q:Option (Tm×List Tm)×Tm),EA E CE W m t vs la l= .ok (q,l')→EA E CE W m t vs la (l+k)= .ok (q,l'+k)
 | 0,t,vs,la,l,l',q,h=>by rw[EA] at h;cases h
 | m+1,t,vs,la,l,l',q,h=>by
  by_cases h1:t.kind=1
  ·by_cases hb:t.var<0∨t.var≥(vs.length:Int)
   ·rw[KT h1 (by rcases hb with h | h;exact .inl h;exact .inr (.inl h))] at h ⊢;cases h;rfl
   have hb2:∀l,¬(t.var<0∨t.var≥(vs.length:Int)∨CE.over l=true):=fun l=>by simp[CE];omega
   have hx:=List.getElem?_eq_getElem (show t.var.toNat<vs.length by omega);rw[L4 h1 (hb2 _) hx] at h ⊢;obtain⟨⟨r,l1⟩,e1,e2,e3⟩:=HA h;rw[hW _ _ _ _ k hk e1];simp only[Out.chk,Out.bind];rw[if_pos e2];cases hc:Ce E r with
   | none=>rw[G7 hc] at e3 ⊢;cases e3;rfl
   | some p =>
    obtain⟨d,j,f⟩:=p;cases hbr:Cl (EM d j).name t.branches with
    | none=>rw[JK hc hbr] at e3 ⊢;cases e3;rfl
    | some t'=>rw[JM hc hbr] at e3 ⊢;exact WU hW hk m t' _ _ _ _ _ e3
  rw[Is h1] at h ⊢;cases h;rfl
theorem ir {d:B8}{g m:Tm}{a:List Tm}{l l' k:Int}{q:Option Tm}(hk:0≤k) (h:ER E CE d g a m l= .ok (q,l')):ER E CE d g a m (l+k)= .ok (q,l'+k):=by
 unfold ER at h ⊢;split at h
 ·cases h;rfl
 split at h
 ·rename_i c;rw[if_pos c];cases h;rfl
 rename_i c;rw[if_neg c];split at h
 ·rename_i c2;rw[if_pos c2];cases h;rfl
 rename_i c2;rw[if_neg c2];exact K5 hk (QR (f:=fun t=>apply t (a.drop (Bv d+1).toNat))) h
theorem gx {g b:Tm}{vs a:List Tm}{l l' k:Int}{q:Option Tm}(hk:0≤k) (h:FE CE g b vs a l= .ok (q,l')):FE CE g b vs a (l+k)= .ok (q,l'+k):=by
 unfold FE at h ⊢;split at h
 ·rename_i c;rw[if_pos c];cases h;rfl
 rename_i c;rw[if_neg c];split at h
 ·cases h
 rename_i c2;rw[if_neg c2];exact K5 hk (QR (f:=fun t=>apply t a)) h
theorem cu {d:B8}{g:Tm}{a:List Tm}{l l' k:Int}{q:Option Tm}(hk:0≤k) (h:EP CE d g a l= .ok (q,l')):EP CE d g a (l+k)= .ok (q,l'+k):=by
 unfold EP at h ⊢;split at h
 ·rename_i c;rw[if_pos c];cases h;rfl
 rename_i c;rw[if_neg c];exact K5 hk (QR (f:=fun t=>apply t a)) h
theorem aq {W:Int→Tm→Out (Tm×Int)}(hW:LW W) {n:Nat}{g:Tm}{a:List Tm}{l l' k:Int}{q:Option Tm}(hk:0≤k) (h:Dc E CE W n g a l= .ok (q,l')):Dc E CE W n g a (l+k)= .ok (q,l'+k):=by
 unfold Dc at h ⊢;split at h
 ·cases h;rfl
 split at h
 ·rename_i c;rw[if_pos c];exact cu hk h
 rename_i c;rw[if_neg c];split at h
 ·rename_i c;rw[if_pos c];unfold QE at h ⊢;split at h
  ·rename_i c;rw[if_pos c];cases h;rfl
  rename_i c;rw[if_neg c];obtain⟨⟨r,l1⟩,e1,e2,e3⟩:=HA h;rw[hW _ _ _ _ k hk e1];simp only[Out.chk,Out.bind];rw[if_pos e2];exact ir hk e3
 rename_i c;rw[if_neg c];split at h
 ·rename_i c;rw[if_pos c];unfold Iw at h ⊢;split at h
  ·rename_i c;rw[if_pos c];cases h;rfl
  rename_i c;rw[if_neg c];obtain⟨⟨r,l1⟩,e1,e2⟩:=D9 h;rw[WU hW hk _ _ _ _ _ _ _ e1];simp only[Out.bind];simp only at e2;split at e2
  ·cases e2;rfl
  split at e2
  ·rename_i c;simp[CE] at c
  rw[if_neg (by simp[CE])];exact gx hk e2
 rename_i c;rw[if_neg c];cases h;rfl
theorem fZ:∀n,LW (FM E CE n)
 | 0=>fun l t r l' k _ h=>by rw[FM] at h;cases h
 | n+1=>fun l t r l' k hk h=>by
  have ih:=fZ n;have hf:∀(f:Tm→Tm) (t:Tm) (s:Int) (q:Tm) (s':Int),FM E CE n s (f t)= .ok (q,s')→FM E CE n (s+k) (f t)= .ok (q,s'+k):=fun f t s q s' e=>ih _ _ _ _ k hk e;rw[FM] at h ⊢;split at h
  ·cases h
  rename_i c;rw[if_neg c];split at h
  ·rename_i c;simp[CE] at c
  rw[if_neg (by simp[CE])];split at h
  ·cases h
  rename_i c;rw[if_neg c];split at h
  ·rename_i c;rw[if_pos c];split at h
   ·rename_i c;rw[if_pos c];cases h;rfl
   rename_i c;rw[if_neg c];unfold KC at h ⊢;split at h
   ·cases h
   exact K5 hk (hf fun x=>apply x ((Ay t).2.drop 1)) h
  rename_i c;rw[if_neg c];split at h
  ·rename_i c;rw[if_pos c];unfold OV at h ⊢;split at h
   ·exact K5 hk (hf fun x=>apply x (Ay t).2) h
   cases h
  rename_i c;rw[if_neg c];split at h
  ·rename_i c;rw[if_pos c];split at h
   ·cases h
   obtain⟨⟨r1,l1⟩,e1,e2,e3⟩:=HA h;rw[ih _ _ _ _ k hk e1];simp only[Out.chk,Out.bind];rw[if_pos e2];simp only at e3;split at e3
   ·rename_i c;rw[if_pos c];cases e3;rfl
   rename_i c;rw[if_neg c];unfold Jf at e3 ⊢;split at e3
   ·cases e3
   exact K5 hk (hf fun x=>apply x (Ay t).2) e3
  rename_i c;rw[if_neg c];split at h
  ·rename_i c;rw[if_pos c];obtain⟨⟨q,l1⟩,e1,e2⟩:=D9 h;rw[aq ih hk e1];simp only[Out.bind];simp only at e2;split at e2
   ·cases e2;rfl
   exact ih _ _ _ _ k hk e2
  rename_i c;rw[if_neg c];cases h;rfl
theorem ZT {n m:Nat}{l l2:Int}{t a b:Tm}{x y:Int}(h1:FM E CE n l t= .ok (a,x)) (h2:FM E CE m l2 t= .ok (b,y)) (hl:l≤l2):a=b:=by
 have e1:=fZ n l t a x (l2 - l) Au h1;rw[show l+(l2 - l)=l2 by omega] at e1;rcases Nat.le_total n m with hn | hn
 ·rcases lD (E:=E) (S:=CE) n m hn l2 t with e | e
  ·rw[e] at e1;cases e1
  rw[e1,h2] at e;cases e;rfl
 rcases lD (E:=E) (S:=CE) m n hn l2 t with e | e
 ·rw[e] at h2;cases h2
 rw[h2,e1] at e;cases e;rfl
structure Exit (E:List B8) (n:Nat) (l:Int) (a:Tm) (l':Int):Prop where
 many:CE.many (Ay a).2.length=false
 lam:(Ay a).1.kind=5→(Ay a).2.length=0
 lt:(Ay a).1.kind≠11
 proj:(Ay a).1.kind=9∨(Ay a).1.kind=10→∃p,(Ay a).1=Ha (Ay a).1.kind p∧okB p=true∧p.kind≠8∧FM E CE n l p= .ok (p,l')∧a=apply (Ay a).1 (Ay a).2
 con:(Ay a).1.kind=3→Dc E CE (FM E CE n) n (Ay a).1 (Ay a).2 l= .ok (none,l')
 oth:(Ay a).1.kind≠9→(Ay a).1.kind≠10→(Ay a).1.kind≠3→l'=l
theorem pa {n:Nat}{l l':Int}{a:Tm}(ho:okB a=true) (h:Exit E n l a l'):FM E CE (n+1) l a= .ok (a,l'):=by
 have hov:CE.over l=false:=rfl;by_cases k5:(Ay a).1.kind=5
 ·rw[MI ho hov h.many k5 (h.lam k5),h.oth Au Au Au]
 by_cases k9:(Ay a).1.kind=9∨(Ay a).1.kind=10
 ·obtain⟨p,h1,h2,h3,h4,h5⟩:=h.proj k9;have hk:(Ay a).1.kids[0]?=some p:=by rw[h1];rfl
  rw[LY ho hov h.many k9 hk,h4];simp only[Out.chk,Out.bind];rw[if_pos h2,KF (r:=(p,l')) h3];simp only;rw[←h1,←h5]
 by_cases k3:(Ay a).1.kind=3
 ·rw[JG ho hov h.many k3,h.con k3];rfl
 rw[Sk ho hov h.many k5 h.lt (fun e=>k9 (.inl e)) (fun e=>k9 (.inr e)) k3,h.oth (fun e=>k9 (.inl e)) (fun e=>k9 (.inr e)) k3]
theorem LI {h:Tm}(hk:h.kind≠4):∀(xs:List Tm),Ay (apply h xs)=(h,xs):=by
 have key:∀(xs:List Tm) (f:Tm) (ys:List Tm),Ay f=(h,ys)→Ay (apply f xs)=(h,ys++xs):=by
  intro xs
  induction xs with
  | nil=>intro f ys e;simpa [apply] using e
  | cons x xs ih =>
   intro f ys e;have:Ay (GJ f x)=(h,ys++[x]):=by simp[GJ,Ay,e]
   have:=ih (GJ f x) (ys++[x]) this;simpa [apply] using this
 intro xs;have h0:Ay h=(h,[]):=by
  obtain⟨k,i,n,l,s⟩:=h;exact OK (.inl hk)
 simpa using key xs h [] h0
theorem eN:∀(n:Nat) (l l':Int) (t a:Tm),FM E CE n l t= .ok (a,l')→∃n' l1 l2,l1≤l∧Exit E n' l1 a l2
 | 0,l,l',t,a,h=>by rw[FM] at h;cases h
 | n+1,l,l',t,a,h=>by
  have ih:=eN n;have ho:=bP h Av;have hov:CE.over l=false:=rfl;obtain⟨oh,oa⟩:=DB ho;cases hm:CE.many (Ay t).2.length with
  | true=>rw[ep ho hov hm] at h;cases h
  | false =>
   have step:∀{x:Tm×Int} {f:Tm→Tm},CE.put l x (fun y s=>FM E CE n s (f y))= .ok (a,l')→∃n' l1 l2,l1≤l∧Exit E n' l1 a l2:=fun {x f} e=>by
    obtain⟨g1,g2⟩:=Rx (s:=l) (x:=x) (k:=fun y s=>FM E CE n s (f y)) (by rw[e];simp);rw[g2] at e;split at e
    ·cases e
    obtain⟨n',l1,l2,q1,q2⟩:=ih _ _ _ _ e;exact⟨n',l1,l2,by omega,q2⟩
   by_cases k5:(Ay t).1.kind=5
   ·by_cases hl:(Ay t).2.length=0
    ·rw[MI ho hov hm k5 hl] at h;cases h;exact⟨n,l,l,Int.le_refl _,⟨hm,fun _=>hl,by omega,fun e=>by omega,fun e=>by omega,fun _ _ _=>rfl⟩⟩
    obtain⟨b,hb,_⟩:=ED oh (i:=1) (by rw[k5];decide);rw[UH ho hov hm k5 hl hb] at h;exact step (f:=fun x=>apply x ((Ay t).2.drop 1)) h
   by_cases k11:(Ay t).1.kind=11
   ·obtain⟨v,hvk,_⟩:=ED oh (i:=1) (by rw[k11];decide);obtain⟨b,hb,_⟩:=ED oh (i:=2) (by rw[k11];decide);rw[Ta ho hov hm k11 hvk hb] at h;exact step (f:=fun x=>apply x (Ay t).2) h
   by_cases k9:(Ay t).1.kind=9∨(Ay t).1.kind=10
   ·obtain⟨p,hpk,op,sp⟩:=ED oh (i:=0) (by rcases k9 with h | h<;>rw[h]<;>decide);rw[LY ho hov hm k9 hpk] at h;obtain⟨⟨r1,l1⟩,h1,h2,h3⟩:=HA h;have hd:=(XH QL n l p _ h1).1;by_cases k8:r1.kind=8
    ·have har:arity 8=3:=rfl;obtain⟨y,hy,oy,sy⟩:=ED h2 (i:=(1+(Ay t).1.kind - 9).toNat) (by show _<arity r1.kind;rw[k8,har];omega);rw[Pr (r:=(r1,l1)) k8 hy] at h3;obtain⟨g1,g2⟩:=Rx (s:=l1) (x:=(y,0)) (k:=fun y s=>FM E CE n s (apply y (Ay t).2)) (by rw[h3];simp);simp only at h3 hd;rw[g2] at h3;split at h3
     ·cases h3
     obtain⟨n',l3,l2,q1,q2⟩:=ih _ _ _ _ h3;exact⟨n',l3,l2,by omega,q2⟩
    rw[KF (r:=(r1,l1)) k8] at h3;cases h3;obtain⟨n',l3,l2,q1,q2⟩:=ih _ _ _ _ h1;have hw:=pa h2 q2;have hsp:=LI (h:=Ha (Ay t).1.kind r1) (by show (Ay t).1.kind≠4;omega) (Ay t).2;refine⟨n'+1,l3,l2,q1,?_⟩;simp only;refine⟨by rw[hsp];exact hm,fun e=>?_,?_,fun _=>?_,fun e=>?_,fun e1 e2=>?_⟩
    ·rw[hsp] at e;exact absurd e k5
    ·rw[hsp];exact k11
    ·rw[hsp];exact⟨r1,rfl,h2,k8,hw,rfl⟩
    ·rw[hsp] at e;have e':(Ay t).1.kind=3:=e;omega
    rw[hsp] at e1 e2;have e1':(Ay t).1.kind≠9:=e1;have e2':(Ay t).1.kind≠10:=e2;omega
   by_cases k3:(Ay t).1.kind=3
   ·rw[JG ho hov hm k3] at h;obtain⟨⟨q,l1⟩,h1,h2⟩:=D9 h;have hd:=(Vg QL (fun s t q=>XH QL n s t q) h1).1;cases hq:q.isSome with
    | false =>
     rw[SZ hq] at h2;cases h2;cases q with
     | some x=>cases hq
     | none=>exact⟨n,l,_,Int.le_refl _,⟨hm,fun e=>absurd e k5,k11,fun e=>absurd e k9,fun _=>h1,fun _ _ e=>absurd k3 e⟩⟩
    | true =>
     rw[Sb hq] at h2;obtain⟨n',l3,l2,q1,q2⟩:=ih _ _ _ _ h2;simp only at hd;exact⟨n',l3,l2,by omega,q2⟩
   rw[Sk ho hov hm k5 k11 (fun e=>k9 (.inl e)) (fun e=>k9 (.inr e)) k3] at h;cases h;exact⟨n,l,l,Int.le_refl _,⟨hm,fun e=>absurd e k5,k11,fun e=>absurd e k9,fun e=>absurd e k3,fun _ _ _=>O⟩⟩
end
section
variable {α:Type}{o:Out (α×Int)}{a:α×Int}{z:α}{e:Int}
end
theorem bH:N3 20000:=⟨by omega,by omega⟩
end Go.Eu
namespace Go.Proofs.YtldfmjoncbjldaaGreat
open Go.Abs Go.Eu
end Go.Proofs.YtldfmjoncbjldaaGreat
namespace Go.Eu
open Go.Abs
def Dd (p:Int×List Int):List PV:=[I p.1,.lst (p.2.map Fz)]
theorem di (p:Int×List Int):Ej 2 (Dd p):=⟨rfl,by simp[Dd]⟩
theorem VY (l:List (Int×List Int)):∀r∈l.map Dd,Ej 2 r:=IG di l
theorem Vt (l:List (Int×List Int)):∀r∈l.map Dd,Ej 2 r:=IG di l
theorem UT {t x z:Tm}{ps:List Int}{p:Int}(h:Ic t ps x=some z) (hp:ps[0]?=some p):p.toNat<(Ay t).2.length:=by
 cases ps with
 | nil=>simp at hp
 | cons q qs =>
  simp at hp;subst hp;rw[Ic] at h;rcases Nat.lt_or_ge q.toNat (Ay t).2.length with hl | hl
  ·exact hl
  rw[List.getElem?_eq_none hl] at h;cases h
theorem V1 {t x z y:Tm}{ps:List Int}{p:Int}(h:Ic t ps x=some z) (hp:ps[0]?=some p) (hy:(Ay t).2[p.toNat]?=some y):∃w,Ic y (ps.drop 1) x=some w∧apply (Ay t).1 ((Ay t).2.set p.toNat w)=z:=by
 cases ps with
 | nil=>simp at hp
 | cons q qs =>
  simp at hp;subst hp;rw[Ic,hy] at h;simp only[Option.map_eq_some_iff] at h;obtain⟨w,h1,h2⟩:=h;exact⟨w,h1,h2⟩
theorem Z1 {t x z:Tm}{ps:List Int}(h:Ic t ps x=some z) (hp:ps.length=0):x=z:=by
 cases ps with
 | nil=>rw[Ic] at h;cases h;rfl
 | cons q qs=>simp at hp
theorem Wa {t x z:Tm}{ps:List Int}(h:Ic t ps x=some z) (hp:ps.length≠0):0<(Ay t).2.length:=by
 cases ps with
 | nil=>simp at hp
 | cons q qs=>have:=UT (p:=q) h rfl;omega
end Go.Eu
namespace Go.Proofs.YtldfmjoncbjldaaGreat
open Go.Abs Go.Eu
theorem kI:∀(l:List Int),(l.length<549755813888)→BL Tryz.prog 186 [.p (.lst (List.map Fz l))] [] (Zf (fun v=>v) 1 (List.map Fz l)):=by
 intro l h1;refine DI Tryz.func186 (DS [2] O (EF O O (OB HL O O) ?_));rintro _ ⟨q,rfl,hq⟩;refine BW (BC [0] rfl ?_ ?_)<;>intro c
 ·refine CK [1] O (A5 (DH (t:=2) (sz:=1) O) (BP (A9 [0] O (Bg [] [0] O O ?_))));rw[show l=[] by simpa using hq c]
  all_goals exact⟨_,_,rfl,rfl⟩
 refine DS [0] O (P7 O O (MO HL) fun b5 cp=>BW (DS [1] O ?_));refine ET O O (Bi (i:=0) (rows':=List.map Fz l) HL HL mT O O O O O O (Jq _) (by simp only[List.length_map,List.length_nil];omega) (Fx (f:=Fz) [] l)) fun o cp1=>BW (A9 [1] O (Bg [] [0] O O ⟨_,_,O,O⟩))
theorem _root_.Go.Ac {α:Prop}(h:α:=by simp only[Db,List.length_set];omega):α:=h
theorem _root_.Go.Ad {α:Prop}(h:α:=by simp only[List.length_drop];omega):α:=h
theorem _root_.Go.Ai {α:Prop}(h:α:=by first | omega | assumption):α:=h
theorem nj : ∀ (n : Nat) (ps : List Int) (t x z : Tm), (ps.length ≤ n) → (okB t = true) → (∀ p ∈ ps, 0 ≤ p) → (ps.length < 1000000) → (Ic t ps x = some z) → En Tryz.prog 184 [.agg ((BD t).map .p), .p (.lst (List.map Fz ps)), .agg ((BD x).map .p)] (.agg ((BD z).map .p)) := by
 intro n
 induction n using Nat.strongRecOn with
 | ind n ih =>
  intro ps t x z h0 h1 h3 h4 h5
  have hsp := Q8 h1
  have hsl := hsp.len
  have hss := hsp.sz
  refine DI Tryz.func184 ?_
  refine CG [0] O O fun b3 => ?_
  refine CG [0] O O fun b5 => ?_
  refine Bp [0] O (Az Ba O) fun b6 => ?_
  refine CA [1] O O (List.length_map _) ?_
  refine BC [1] rfl ?_ ?_ <;> intro c
  ·refine A9 [2, 1, 0, 1] O (Bg [0] [] O O ⟨by rw [Z1 h5 Au]; try rfl, rfl⟩)
  refine CQ [1, 2] O (O5 t hsp.nd Ak) ?_
  refine Bp [3] O (Az Ba O) fun b7 => ?_
  refine DS [3, 0, 1] O ?_
  refine Mj O O O (.inl ⟨O, O, O⟩) (NC ((Ay t).2) hsp.len) (.inl O) fun o cp => ?_
  refine BW (CK [1] O ?_)
  refine JI (i := 0) O (by have hxl := Wa h5 Au; rw [A8]; omega) fun b hb => ?_
  subst hb
  refine BP (E2 [0] [] O ?_)
  refine Bb [2] O ?_
  obtain ⟨x1, hx1⟩ := A1 (l := ps) (i := 0) Au
  have hx0 := h3 _ (List.mem_of_getElem? hx1)
  have hxl := UT h5 hx1
  refine A3 O (fun _ => A0 HL O O Au (K4 hx1) (O)) Aw ?_
  refine Bb [3] O ?_
  refine A3 O (fun _ => A0 HL O O Au (K4 hx1) (O)) Aw ?_
  refine A3 O (fun _ => Gp Dz O) Aw ?_
  refine A3 O (fun _ => CJ BS O O Au Ah) Aw ?_
  obtain ⟨y, hy⟩ := A1 (l := ((Ay t).2)) (i := (x1 : Int).toNat) Ai
  refine CF (j := 0) O O O (fun H i hi => Dl (i := i) CN O hi (BO hy)) AB Aw ?_
  refine A3 O (fun _ => Bh O) Aw ?_
  refine A3 O (fun _ => Cn (lo := 1) HL O (CW (Jq _)) ⟨_, O⟩ O AZ (Nat.le_refl _) (l7 (f := Fz) ps 1)) Aw ?_
  refine Bb [1, 3] O ?_
  obtain ⟨z1, e1, e2⟩ := V1 h5 hx1 hy
  refine A3 rfl (fun _ => BF rfl rfl (ih (n - 1) Au (ps.drop 1) y x z1 Ad (hsp.args _ (List.mem_of_getElem? hy)) (fun p hp => h3 p (List.mem_of_mem_drop hp)) Ad e1) rfl) trivial ?_
  refine A3 O (fun _ => CJ BS O O Au Ah) Aw ?_
  refine FB O O (C7 (i := 0) (j := ((x1 : Int).toNat)) CN O O O Ah O (Ho _) (A7 _) (Gd _) (MP ((Ay t).2) ((x1 : Int).toNat) z1)) AB Aw ?_
  refine HC O Ap ?_
  refine Cu (DS [2, 1] O ?_)
  refine BH (CV (t := 20) (x := .vs (some b) (A6 ((((Ay t).2)).set ((x1 : Int).toNat) z1)).length cp) (CZ ((Ay t).2) (l' := (((Ay t).2)).set ((x1 : Int).toNat) z1) Av)) ?_
  refine BH (CV (t := 9) (x := .vs (some b) (A6 ((((Ay t).2)).set ((x1 : Int).toNat) z1)).length cp) (CZ ((Ay t).2) (l' := (((Ay t).2)).set ((x1 : Int).toNat) z1) Av)) ?_
  refine BH (CV (t := 21) (x := .vs (some b) (A6 ((((Ay t).2)).set ((x1 : Int).toNat) z1)).length cp) (CZ ((Ay t).2) (l' := (((Ay t).2)).set ((x1 : Int).toNat) z1) Av)) ?_
  refine BH (CV (t := 25) (x := .vs (some b) (A6 ((((Ay t).2)).set ((x1 : Int).toNat) z1)).length cp) (CZ ((Ay t).2) (l' := (((Ay t).2)).set ((x1 : Int).toNat) z1) Av)) ?_
  refine BH (CV (t := 37) (x := .vs (some b) (A6 ((((Ay t).2)).set ((x1 : Int).toNat) z1)).length cp) (CZ ((Ay t).2) (l' := (((Ay t).2)).set ((x1 : Int).toNat) z1) Av)) ?_
  refine BH (CL (i := 0) [20, 9, 21, 25, 37] O (DA ⟨O, O, O, O, O, Aw⟩)) ?_
  refine BW (CQ [0] O (Fp ((Ay t).1) ((((Ay t).2)).set ((x1 : Int).toNat) z1) Ac) ?_)
  refine A9 [1, 1, 1] O (Bg [1] [] O O ⟨by rw [e2]; try rfl, rfl⟩)
end Go.Proofs.YtldfmjoncbjldaaGreat
namespace Go.Eu
open Go.Abs
def P2 (n:Nat):List (Int×List Int):=(List.range n).map fun i:Nat=>((i:Int),[])
theorem PE (n:Nat):P2 (n+1)=P2 n++[((n:Int),[])]:=by simp[P2,List.range_succ]
theorem Nn (n:Nat):(P2 n).length=n:=by simp[P2]
theorem Jm (a:Int×List Int) (fx:Int):De a fx 0=[]:=rfl
theorem Jg (a:Int×List Int) (fx:Int) (n:Nat):De a fx (n+1)=De a fx n++[(a.1,a.2++[fx+(n:Int)])]:=by simp[De,List.range_succ]
theorem Im {α:Type}{l:List α}{i:Nat}{x:α}(h:l[i]?=some x):l.take (i+1)=l.take i++[x]:=by rw[List.take_add_one,h];rfl
theorem PH {α:Type}{l:List α}{i:Nat}(h:l.length≤i):l.take i=l:=List.take_of_length_le h
theorem Lm {w:FY}(h:FD w):okB w.body=true:=by
 obtain⟨k,b,v,l⟩:=w;simp only[FD] at h;exact h.1
structure nY (a us:List Tm) (pl:List (Int×List Int)) (w:FY):Prop where
 ok:jC a us pl
 nn:∀p∈pl,0≤p.1∧(∀q∈p.2,0≤q)∧p.2.length+Dp w≤1000
theorem nY.len {a us:List Tm}{pl:List (Int×List Int)}{w:FY}(h:nY a us pl w):pl.length=us.length:=h.ok.len
theorem Y7 (a:List Tm) (n:Nat) (w:FY) (hn:n≤a.length) (hd:Dp w≤1000):nY a (a.take n) (P2 n) w:=by
 refine⟨VF a n hn,fun p hp=>?_⟩;obtain⟨i,_,rfl⟩:=List.mem_map.1 hp;exact⟨by simp,by simp,by simp;omega⟩
theorem nY.next {E:List B8}{a us f:List Tm}{pl:List (Int×List Int)}{w q:FY}(h:nY a us pl w) (hE:MC E) {i:Nat}{v:Tm}{p:Int×List Int}{d:B8}{j:Int}{nm:ByteArray}(hv:us[i]?=some v) (hp:pl[i]?=some p) (hc:Ce E v=some (d,j,f)) (hb:Cl nm w.branches=some q) (ho:FD w):nY a (us++f) (pl++De p d.fixed f.length) q:=by
 have hcf:=Fy hc;obtain⟨b1,b2⟩:=Xb hb ho;have hfx:=(hE.all d hcf.mem).fx.1;have hmore:=h.ok.more hv hp hfx;rw[←hcf.fs] at hmore;obtain⟨n1,n2,n3⟩:=h.nn p (List.mem_of_getElem? hp);refine⟨hmore,fun r hr=>?_⟩;rcases List.mem_append.1 hr with hr | hr
 ·obtain⟨m1,m2,m3⟩:=h.nn r hr;exact⟨m1,m2,by omega⟩
 obtain⟨k,_,rfl⟩:=List.mem_map.1 hr;refine⟨n1,fun q hq=>?_,by simp only[List.length_append,List.length_cons,List.length_nil];omega⟩;rcases List.mem_append.1 hq with hq | hq
 ·exact n2 q hq
 have:=List.mem_singleton.1 hq;omega
theorem nY.at_ {a us:List Tm}{pl:List (Int×List Int)}{w:FY}(h:nY a us pl w) {i:Nat}{v:Tm}{p:Int×List Int}(hv:us[i]?=some v) (hp:pl[i]?=some p):0≤p.1∧(∀q∈p.2,0≤q)∧p.2.length≤1000∧p.1.toNat<a.length:=by
 obtain⟨n1,n2,n3⟩:=h.nn p (List.mem_of_getElem? hp);obtain⟨j,path,y,h1,h2,h3⟩:=h.ok.at_ i v hv;rw[hp] at h1;cases h1;exact⟨n1,n2,by omega,(List.getElem?_eq_some_iff.1 h2).1⟩
section
variable {E:List B8}{σ:Type}{S:Sys σ}{T:σ→Tm→Out (Option Tm×σ)}{h:Tm}{ar:Int}{a us:List Tm}{n:Nat}{t:FY}{pl:List (Int×List Int)}{s:σ}{x:Tm}{p:Int×List Int}
def mv (h:Tm) (a:List Tm) (p:Int×List Int) (r:Option Tm×σ):Out (Option Tm×σ):=match r.1 with
 | none=> .ok (none,r.2)
 | some x=>match Ic (a.getD p.1.toNat default) p.2 x with
  | none=> .stuck
  | some y=> .ok (some (apply h (a.set p.1.toNat y)),r.2)
theorem YZ {X:Out (Option Tm×σ)}(e:Fs E S T h ar a n t us pl s=X) (hX:X≠ .stuck):∃k,n=k+1:=by
 cases n with
 | zero=>rw[Fs] at e;exact absurd e.symm hX
 | succ k=>exact⟨k,rfl⟩
theorem ZA (hk:t.kind≠1):Fs E S T h ar a (n+1) t us pl s=FE S h t.body us (a.drop ar.toNat) s:=by rw[Fs,if_neg hk]
theorem ew (hk:t.kind=1) (hb:t.var<0∨t.var≥(us.length:Int)):Fs E S T h ar a (n+1) t us pl s= .ok (none,s):=by rw[Fs,if_pos hk,if_pos hb]
theorem Ys (hk:t.kind=1) (hb:¬(t.var<0∨t.var≥(us.length:Int))) (hx:us[t.var.toNat]?=some x) (hp:pl[t.var.toNat]?=some p) (hc:Ce E x=none):Fs E S T h ar a (n+1) t us pl s=(T s x).bind (mv h a p):=by
 rw[Fs,if_pos hk,if_neg hb,CO hx,CO hp,hc];rfl
theorem lk {d:B8}{j:Int}{f:List Tm}(hk:t.kind=1) (hb:¬(t.var<0∨t.var≥(us.length:Int))) (hx:us[t.var.toNat]?=some x) (hp:pl[t.var.toNat]?=some p) (hc:Ce E x=some (d,j,f)) (hbr:Cl (EM d j).name t.branches=none):Fs E S T h ar a (n+1) t us pl s= .ok (none,s):=by
 rw[Fs,if_pos hk,if_neg hb,CO hx,CO hp,hc];simp only[hbr]
theorem mL {d:B8}{j:Int}{f:List Tm}{t':FY}(hk:t.kind=1) (hb:¬(t.var<0∨t.var≥(us.length:Int))) (hx:us[t.var.toNat]?=some x) (hp:pl[t.var.toNat]?=some p) (hc:Ce E x=some (d,j,f)) (hbr:Cl (EM d j).name t.branches=some t'):Fs E S T h ar a (n+1) t us pl s=Fs E S T h ar a n t' (us++f) (pl++De p d.fixed f.length) s:=by
 rw[Fs,if_pos hk,if_neg hb,CO hx,CO hp,hc];simp only[hbr]
theorem Vz {r:Option Tm×σ}(hr:r.1.isSome=false):mv h a p r= .ok (none,r.2):=by
 obtain⟨q,s⟩:=r;cases q with
 | none=>rfl
 | some x=>cases hr
theorem Vl {r:Option Tm×σ}{y:Tm}(hs:mv h a p r≠ .stuck) (hr:r.1.isSome=true) (hy:a[p.1.toNat]?=some y):∃z,Ic y p.2 (r.1.getD BN)=some z∧mv h a p r= .ok (some (apply h (a.set p.1.toNat z)),r.2):=by
 obtain⟨q,s⟩:=r;cases q with
 | none=>cases hr
 | some x =>
  unfold mv at hs ⊢;simp only at hs ⊢;rw[CO hy] at hs ⊢;cases hz:Ic y p.2 x with
  | none=>rw[hz] at hs;exact absurd rfl hs
  | some z=>exact⟨z,hz,rfl⟩
end
end Go.Eu
namespace Go.Proofs.YtldfmjoncbjldaaGreat
open Go.Abs Go.Eu
def xE (ds:List B8) (n:Nat):Prop:=∀(m:Nat) (t:Tm) (s:Int),N3 s→Di ds CE n s t≠ .stuck→BL Tryz.prog 67 [.ptr m 0,.agg ((BD t).map .p)] [.box m [.p (.lst (List.map B1 ds)),.p (I s)]] (OP (fun(r:Option Tm×Int)=> .tup [TV (r.1.getD BN),.p (.bool r.1.isSome)]) (fun _=> .p (.iface 178 .unit)) (fun r H'=>H'=[.box m [.p (.lst (List.map B1 ds)),.p (I r.2)]]) ((Di ds CE n s t).ex))
theorem _root_.Go.AO {α:Prop}(h:α:=by simp only[List.length_map,Nn,List.length_cons,List.length_nil];omega):α:=h
set_option maxHeartbeats 4000000 in
theorem cj : ∀ (n m : Nat) (ds : List B8) (s : Int) (g : Tm) (a : List Tm) (d : B8) (f : I9), (xE ds n) → (G2 ds) → (N3 s) → (d ∈ ds) → (f ∈ d.funs) → (f.arity ≤ a.length) → (okB g = true) → (a.length < 549755813888) → (∀ y ∈ a, okB y = true) → (Fs ds CE (Di ds CE n) g f.arity a n f.tree (a.take f.arity.toNat) (P2 f.arity.toNat) s ≠ .stuck) → BL Tryz.prog 155 [.ptr m 0, .agg ((BD g).map .p), .agg ((Ix f).map .p), .p (.lst (A6 a))] [.box m [.p (.lst (List.map B1 ds)), .p (I s)]] (OP (fun (r : Option Tm × Int) => .tup [TV (r.1.getD BN), .p (.bool r.1.isSome)]) (fun _ => .p (.iface 178 .unit)) (fun r H' => H' = [.box m [.p (.lst (List.map B1 ds)), .p (I r.2)]]) ((Fs ds CE (Di ds CE n) g f.arity a n f.tree (a.take f.arity.toNat) (P2 f.arity.toNat) s).ex)) := by
 intro n m ds s g a d f hT h2 h3 h4 h5 h6 h7 h8 h9 hns
 obtain ⟨gk, gi, gn, gl, gs⟩ := g
 have hgo := Bu.1 h7
 have hgl := hgo.nd
 simp only [Nd, Db] at hgl
 have hfu := (h2.g.all _ h4).fu _ h5
 have hdp := h2.fu _ h4 _ h5
 have hlf := dR h2 h4 h5 h9
 have htl : (a.take f.arity.toNat).length = f.arity.toNat := by rw [List.length_take]; omega
 have hpw := Y7 a f.arity.toNat f.tree Au Au
 generalize hX : Fs ds CE (Di ds CE n) (.mk gk gi gn gl gs : Tm) f.arity a n f.tree (a.take f.arity.toNat) (P2 f.arity.toNat) s = X at hns ⊢
 refine DI Tryz.func155 ?_
 refine CG [0] O O fun b5 => ?_
 refine CG [0] O O fun b6 => ?_
 refine Bp [0] O (Az Ba O) fun b8 => ?_
 refine A2 [3] O (Ax (i := 1) Dz O O (C9 _)) ?_
 refine A2 [0] O (Cn (lo := 0) (hi := (f.arity : Int).toNat) BS O (CW (Bd _)) O ⟨_, pI Au⟩ (Nat.zero_le _) AZ (V4 a ((f.arity : Int).toNat))) ?_
 refine DS [0] O ?_
 refine Mj O O O (.inl ⟨O, O, O⟩) (NC (a.take ((f.arity : Int).toNat)) (by simp only [List.length_take]; omega)) (.inl O) fun o cp => ?_
 refine BW (DS [2] O ?_)
 refine BH (DH (t := 11) (sz := 2) O) ?_
 refine BW (A2 [1] O (JO BS O (A8 _)) ?_)
 refine GG (α := Nat × Option Nat × Nat) [1] [0, 3, 5, 6, 8, 10, 32] [0, 1, 2, 3, 4, 5] (fun (i, o1, cp1) => [(11, .vs o1 (List.map Dd (P2 i)).length cp1), (33, .p (I (i : Int)))]) (fun (i, o1, cp1) => [(0, .vec o1 2 (List.map Dd (P2 i)) cp1)]) (fun (i, o1, cp1) => (a.take f.arity.toNat).length - i) (fun (i, o1, cp1) => i ≤ (a.take f.arity.toNat).length) ⟨0, none, 0⟩ O O O AY ?_
 rintro ⟨i, o1, cp1⟩ hC
 try simp only at hC
 have hi := hC
 refine BC [1] rfl ?_ ?_ <;> intro c
 ·refine A2 [5] O (BJ Ss ZZ O O O O O) ?_
  refine DS [0] O ?_
  refine ET O O (Bi (i := 0) (rows' := List.map Dd ([((i : Int), [])])) Ss Ss ZZ O O O O O O (VY _) AO (Fx (f := Dd) (P2 i) ([((i : Int), [])]))) fun o2 cp2 => ?_
  exact BW (FR [3] 0 ⟨i + 1, o2, cp2⟩ O Au (e1 := ⟨we (FQ (f := Dd) (P2 i ++ ([((i : Int), [])])) ((PE i).symm)), we O, Aw⟩) (e2 := wl (Eo (f := Dd) (P2 i ++ ([((i : Int), [])])) ((PE i).symm)) (wl (oe O) (wl (oe O) (wl (oe O) (wl (oe O) (wl (oe O) (Ih))))))))
 refine DF [0] O ?_
 refine A2 [1] O (Bq (i := 3) LM O O (HU _) (Ds _)) ?_
 refine Bp [0] O (Az VP O) fun b13 => ?_
 refine GG (α := Nat × FY × List Tm × List (Int × List Int) × Option Nat × Nat × Option Nat × Nat) [1, 0, 1] [0, 3, 5, 6, 8, 13] [0, 1, 2, 3, 4, 5, 6] (fun (k2, w, us, pl, o2, cp2, o3, cp3) => [(10, .vs o2 (A6 us).length cp2), (11, .vs o3 (List.map Dd pl).length cp3)]) (fun (k2, w, us, pl, o2, cp2, o3, cp3) => [(0, .box b13 ((EC w).map .p)), (1, .vec o3 2 (List.map Dd pl) cp3), (2, .vec o2 5 (A6 us) cp2)]) (fun (k2, w, us, pl, o2, cp2, o3, cp3) => k2) (fun (k2, w, us, pl, o2, cp2, o3, cp3) => Fs ds CE (Di ds CE n) (.mk gk gi gn gl gs : Tm) f.arity a k2 w us pl s = X ∧ Wq w us ∧ nY a us pl w) ⟨n, f.tree, a.take f.arity.toNat, P2 f.arity.toNat, o, cp, o1, cp1⟩ O O O (⟨hX, hlf, hpw⟩) ?_ (e0 := ⟨we O, we (FQ (f := Dd) (P2 i) (by rw [show i = f.arity.toNat from by omega])), Aw⟩) (e1 := wl (oe O) (wl (Eo (f := Dd) (P2 i) (by rw [show i = f.arity.toNat from by omega])) (wl (oe O) (wl (oe O) (wl (oe O) (wl (oe O) (wl (oe O) (Ih))))))))
 rintro ⟨k2, w, us, pl, o2, cp2, o3, cp3⟩ hC1
 try simp only at hC1
 obtain ⟨hC1, hL, hW⟩ := hC1
 obtain ⟨k1, rfl⟩ := YZ hC1 hns
 refine A2 [1] O (Ax (i := 0) Dz O O (HW _)) ?_
 refine BC [1] rfl ?_ ?_ <;> intro c1
 ·have hk1 := c1
  refine CI [0] 10 [0, 3, 5, 6, 8, 10, 11, 13] 56 ((decide ((w.var : Int) < (0 : Int))) || (decide ((w.var : Int) ≥ ((us.length : Nat) : Int)))) O O ?_ ?_
  ·refine A2 [1] O (Ax (i := 0) Dz O O (DD _)) ?_
   refine Bc [2] 50 rfl rfl ?_ ?_ <;> intro g1
   ·exact CT [6] O
   refine A2 [1] O (Ax (i := 0) Dz O O (DD _)) ?_
   refine A2 [1] O (JO BS O (A8 _)) ?_
   exact CT [2] O
  refine BC [0] rfl ?_ ?_ <;> intro c2
  ·rw [ew hk1 (by simpa using c2)] at hC1
   refine CK [3, 3, 0] O ?_
   refine A5 (BE (i := 3) O) ?_
   refine BP (A9 [0] O (Bg [3] [6] O O ⟨⟨_, _⟩, Gy hC1.symm, O, O⟩))
  have hcb : ¬ (w.var < 0 ∨ w.var ≥ (us.length : Int)) := by simpa using c2
  have hWl := hW.len
  have hLl := hL.len
  refine A2 [2] O (Ax (i := 0) Dz O O (DD _)) ?_
  refine DS [0] O ?_
  refine I4 (i := 1) O Aj fun b hb => ?_
  subst hb
  refine BW (A2 [0] O (CJ Ss O O Au AI) ?_)
  obtain ⟨y, hy⟩ := A1 (l := pl) (i := (w.var : Int).toNat) AW
  refine A2 [0] O (Dl (i := 1) vK O O (Px hy)) ?_
  refine Bp [0] O (Az ZZ O) fun b14 => ?_
  refine A2 [4, 0, 1] O (Ax (i := 1) Dz O O (DD _)) ?_
  refine DS [0] O ?_
  refine I4 (i := 3) O Aj fun b1 hb1 => ?_
  subst hb1
  refine BW (A2 [0] O (CJ BS O O Au AI) ?_)
  obtain ⟨y1, hy1⟩ := A1 (l := us) (i := (w.var : Int).toNat) AW
  refine A2 [0] O (Dl (i := 3) CN O O (BO hy1)) ?_
  refine A2 [0] O (Bj [7] O (.inl ⟨O, O, O⟩) (W7 m ds s y1 h2.g (hL.ok _ (List.mem_of_getElem? hy1))) ⟨_, _, O, O, O⟩ As O (.inl O)) ?_
  refine Bp [5] O (Az Ie O) fun b15 => ?_
  refine BC [6, 0, 1] rfl ?_ ?_ <;> intro c3
  ·have hcn := Ng c3
   obtain ⟨ha1, ha2, ha3, ha4⟩ := hW.at_ hy1 hy
   obtain ⟨ya, hya⟩ := A1 ha4
   refine A2 [3] O (Ax (i := 2) Dz O O (DD _)) ?_
   refine A2 [0] O (CJ BS O O Au AI) ?_
   obtain ⟨y2, hy2⟩ := A1 (l := us) (i := (w.var : Int).toNat) AW
   refine A2 [0] O (Dl (i := 4) CN O O (BO hy2)) ?_
   have hyy : y2 = y1 := Option.some.inj (hy2.symm.trans hy1)
   rw [Ys hk1 hcb hy2 hy (by rw [hyy]; exact hcn)] at hC1
   have hn0 := hns
   rw [← hC1] at hn0
   have hn1 := R3 hn0
   refine DS [0] O ?_
   refine GZ [8] O O O (.inl ⟨O, O, O⟩) (hT m y2 s h3 hn1) ⟨_, _, O, O, O⟩ As (aw (we O) (aw (we O) (HT))) (fun _ _ h => (congrArg List.length h).trans O) ?_ ?_
   rotate_left
   ·intro e _ he
    exact ⟨O, _, List.nil_sublist _, ⟨_, by rw [← hC1]; exact XE hn0 he, rfl⟩⟩
   rintro ⟨q, n2⟩ _ hz rfl
   rw [XO hz] at hC1
   refine BW (Bp [3] O (Az Ba O) fun b19 => ?_)
   refine BC [4, 0, 1] rfl ?_ ?_ <;> intro c4
   ·rw [Vz c4] at hC1
    refine CK [3, 6, 0] O ?_
    refine A5 (BE (i := 6) O) ?_
    refine BP (A9 [0] O (Bg [6] [9] O O ⟨⟨_, _⟩, Gy hC1.symm, O, O⟩))
   obtain ⟨z1, hz1, hz2⟩ := Vl (by rw [hC1]; exact hns) c4 hya
   rw [hz2] at hC1
   refine DS [1] O ?_
   refine Mj O O O (.inl ⟨O, O, O⟩) (NC a h8) (.inl O) fun o4 cp4 => ?_
   refine BW (CK [1] O ?_)
   refine JI (i := 0) O Aj fun b2 hb2 => ?_
   subst hb2
   refine BP (E2 [0] [] O ?_)
   refine Bb [6, 3, 3] O ?_
   refine A3 O (fun _ => CJ BS O O Au AI) Aw ?_
   obtain ⟨y3, hy3⟩ := A1 (l := a) (i := (y.1 : Int).toNat) AW
   refine CF (j := 0) O O O (fun H i hi => Dl (i := i) CN O hi (BO hy3)) AB Aw ?_
   refine Bb [3, 3, 1] O ?_
   have hyy := Option.some.inj (hy3.symm.trans hya)
   refine A3 O (fun _ => BF O O (nj y.2.length y.2 y3 (q.getD BN) z1 (Nat.le_refl _) (h9 _ (List.mem_of_getElem? hy3)) ha2 Au (by rw [hyy]; exact hz1)) O) Aw ?_
   refine A3 O (fun _ => CJ BS O O Au AI) Aw ?_
   refine FB O O (C7 (i := 0) (j := ((y.1 : Int).toNat)) CN O O O AR O (Ho _) (A7 _) (Gd _) (MP a ((y.1 : Int).toNat) z1)) AB Aw ?_
   refine HC O Ap ?_
   refine Cu (DS [2, 9] O ?_)
   refine BH (CV (t := 91) (x := .vs (some b2) (A6 ((a).set ((y.1 : Int).toNat) z1)).length cp4) (CZ a (l' := (a).set ((y.1 : Int).toNat) z1) Av)) ?_
   refine BH (CV (t := 21) (x := .vs (some b2) (A6 ((a).set ((y.1 : Int).toNat) z1)).length cp4) (CZ a (l' := (a).set ((y.1 : Int).toNat) z1) Av)) ?_
   refine BH (CV (t := 92) (x := .vs (some b2) (A6 ((a).set ((y.1 : Int).toNat) z1)).length cp4) (CZ a (l' := (a).set ((y.1 : Int).toNat) z1) Av)) ?_
   refine BH (CV (t := 95) (x := .vs (some b2) (A6 ((a).set ((y.1 : Int).toNat) z1)).length cp4) (CZ a (l' := (a).set ((y.1 : Int).toNat) z1) Av)) ?_
   refine BH (CV (t := 106) (x := .vs (some b2) (A6 ((a).set ((y.1 : Int).toNat) z1)).length cp4) (CZ a (l' := (a).set ((y.1 : Int).toNat) z1) Av)) ?_
   refine BH (CL (i := 0) [91, 21, 92, 95, 106] O (DA ⟨O, O, O, O, O, Aw⟩)) ?_
   refine BW (CQ [0] O (Fp (.mk gk gi gn gl gs : Tm) ((a).set ((y.1 : Int).toNat) z1) Ac) ?_)
   refine A9 [2, 6, 1] O (Bg [6] [9] O O ⟨⟨_, _⟩, Gy hC1.symm, O, O⟩)
  obtain ⟨ha1, ha2, ha3, ha4⟩ := hW.at_ hy1 hy
  have hcs := MD c3
  have hcf := Fy hcs
  have hlo := hcf.lo
  have hhi := hcf.hi
  have hfl := JD h2.g hcs
  have hdf := (h2.g.all _ hcf.mem).fx
  refine E2 [0] [] O ?_
  refine Bb [2, 2] O ?_
  refine CF (j := 0) O O O (fun H i hi => Ax (i := i) GC O hi (B5 _)) AB Aw ?_
  refine A3 O (fun _ => Bh O) Aw ?_
  obtain ⟨x, hx⟩ := A1 (l := ((Bo ds y1).1).ctors) (i := ((Bo ds y1).2.1 : Int).toNat) Au
  refine A3 O (fun _ => A0 Km O O Au (Gr hx) (Ei _)) Aw ?_
  refine A3 O (fun _ => DN UG O O) Aw ?_
  refine A3 O (fun _ => DQ N7 O (GR _)) Aw ?_
  refine A3 O (fun _ => BF O O (iL w x.name hL.tin.bl) O) Aw ?_
  refine Dj [5, 2, 1] rfl (BC [2] rfl ?_ ?_) <;> intro c4
  ·rw [lk hk1 hcb hy1 hy hcs (by rw [EM, CO hx]; exact m7 c4)] at hC1
   refine CK [3, 5, 0] O ?_
   refine A5 (BE (i := 5) O) ?_
   refine BP (A9 [0] O (Bg [5] [8] O O ⟨⟨_, _⟩, Gy hC1.symm, O, O⟩))
  have hbs := lu c4
  rw [mL hk1 hcb hy1 hy hcs (by rw [EM, CO hx]; exact hbs)] at hC1
  refine CA [1] O O (A8 _) ?_
  refine GG (α := Nat × Option Nat × Nat × Option Nat × Nat) [1] [0, 3, 5, 6, 8, 13, 14, 15, 122, 123] [0, 1, 2, 3, 4, 5, 6, 7, 8] (fun (i, o4, cp4, o5, cp5) => [(10, .vs o4 (A6 (us ++ (Bo ds y1).2.2.1.take i)).length cp4), (11, .vs o5 (List.map Dd (pl ++ De y (Bo ds y1).1.fixed i)).length cp5), (124, .p (I (i : Int)))]) (fun (i, o4, cp4, o5, cp5) => [(3, .vec o5 2 (List.map Dd (pl ++ De y (Bo ds y1).1.fixed i)) cp5), (4, .vec o4 5 (A6 (us ++ (Bo ds y1).2.2.1.take i)) cp4)]) (fun (i, o4, cp4, o5, cp5) => (Bo ds y1).2.2.1.length - i) (fun (i, o4, cp4, o5, cp5) => i ≤ (Bo ds y1).2.2.1.length) ⟨0, (some b1), cp2, (some b), cp3⟩ O O O AY ?_ (e0 := ⟨we (H9 us Av), we (FQ (f := Dd) pl (by simp [Jm])), we O, Aw⟩) (e1 := wl (oe O) (wl (oe O) (wl (oe O) (wl (Eo (f := Dd) pl (by simp [Jm])) (wl (Gw us Av) (wl (oe O) (wl (oe O) (wl (oe O) (wl (oe O) (Ih))))))))))
  rintro ⟨i, o4, cp4, o5, cp5⟩ hC2
  try simp only at hC2
  have hi := hC2
  refine BC [1] rfl ?_ ?_ <;> intro c5
  ·refine D7 [1] ((Bo ds y1).2.2.1) i O O O (IH _) (fun x1 hx1 => ?_)
   refine Bp [1] O (Az Ba O) fun b23 => ?_
   obtain ⟨x1k, x1i, x1n, x1l, x1s⟩ := x1
   refine A2 [4, 0, 1, 0] O (BJ BS Ba O O O O O) ?_
   refine DS [0] O ?_
   refine ET O O (Bi (i := 5) (rows' := A6 [(.mk x1k x1i x1n x1l x1s : Tm)]) BS BS Ba O O O O O O (Bd _) (by have := hL.len; have := hW.len; simp only [A8, Nn, Iu, List.length_take, List.length_map, List.length_cons, List.length_nil, List.length_append]; omega) (Hj (us ++ (Bo ds y1).2.2.1.take i) [(.mk x1k x1i x1n x1l x1s : Tm)])) fun o6 cp6 => ?_
   refine BW (E2 [1] [5, 14] O ?_)
   refine Bb [5, 2, 2] O ?_
   refine sl [(6, .free (.ptr b15 13)), (7, .read [.box b15 ((B1 ((Bo ds y1).1)).map .p)] (.p (I (((Bo ds y1).1).fixed)))), (8, .free (.p (I (i : Int)))), (9, .free (.p (I ((((Bo ds y1).1).fixed : Int) + ((i : Int) : Int))))), (10, .free (.p (.lst (List.map Fz [((((Bo ds y1).1).fixed : Int) + ((i : Int) : Int))]))))] O O O (.inl ⟨O, O, O⟩) (kI y.2 Au) (.inl O) Ap fun o7 cp7 => ⟨AB, Aw, ?_⟩
   refine Bb [1] O ?_
   refine CF (j := 2) O O O (fun H i hi => Ax (i := i) Dz O hi (Cr _)) AB AS ?_
   refine Bb [2] O ?_
   refine A3 O (fun _ => BJ HL mT O O O O O) AS ?_
   refine FB O O (YQ (i := 0) (rows' := List.map Fz [((((Bo ds y1).1).fixed : Int) + ((i : Int) : Int))]) HL HL mT O O O O O O (Jq _) (by have := hL.len; have := hW.len; simp only [A8, Nn, Iu, List.length_take, List.length_map, List.length_cons, List.length_nil, List.length_append]; omega) (Fx (f := Fz) y.2 [((((Bo ds y1).1).fixed : Int) + ((i : Int) : Int))])) AB AS ?_
   refine Bb [1] O ?_
   refine A3 O (fun _ => BJ Ss ZZ O O O O O) AS ?_
   refine JS [] O O (Bi (i := 4) (rows' := List.map Dd ([(y.1, (y.2 ++ [((((Bo ds y1).1).fixed : Int) + ((i : Int) : Int))]))])) Ss Ss ZZ O O O O O O (VY _) (by have := hL.len; have := hW.len; simp only [A8, Nn, Iu, List.length_take, List.length_map, List.length_cons, List.length_nil, List.length_append]; omega) (Fx (f := Dd) (pl ++ De y (Bo ds y1).1.fixed i) ([(y.1, (y.2 ++ [((((Bo ds y1).1).fixed : Int) + ((i : Int) : Int))]))]))) Ap fun o8 cp8 => ⟨AB, AS, ?_⟩
   refine CY tab 1 [] O ?_
   exact Cu (FR [2] 1 ⟨i + 1, o6, cp6, o8, cp8⟩ O Au (e1 := ⟨we (H9 (us ++ (Bo ds y1).2.2.1.take i ++ [(.mk x1k x1i x1n x1l x1s : Tm)]) (by rw [Im hx1, List.append_assoc])), we (FQ (f := Dd) (pl ++ De y (Bo ds y1).1.fixed i ++ ([(y.1, (y.2 ++ [((((Bo ds y1).1).fixed : Int) + ((i : Int) : Int))]))])) (by rw [Jg, List.append_assoc])), we O, Aw⟩) (e2 := wl (oe O) (wl (oe O) (wl (oe O) (wl (Eo (f := Dd) (pl ++ De y (Bo ds y1).1.fixed i ++ ([(y.1, (y.2 ++ [((((Bo ds y1).1).fixed : Int) + ((i : Int) : Int))]))])) (by rw [Jg, List.append_assoc])) (wl (Gw (us ++ (Bo ds y1).2.2.1.take i ++ [(.mk x1k x1i x1n x1l x1s : Tm)]) (by rw [Im hx1, List.append_assoc])) (wl (oe O) (wl (oe O) (wl (oe O) (wl (oe O) (Ih)))))))))))
  refine DF [0] O ?_
  exact FR [0] 2 ⟨k1, (ng x.name w.branches).1, us ++ (Bo ds y1).2.2.1, pl ++ De y (Bo ds y1).1.fixed (Bo ds y1).2.2.1.length, o4, cp4, o5, cp5⟩ O (⟨hC1, hL.next h2.g (hL.ok _ (List.mem_of_getElem? hy1)) hcs hbs, hW.next h2.g hy1 hy hcs hbs hL.tok⟩) (e1 := ⟨we (H9 (us ++ (Bo ds y1).2.2.1.take i) (by rw [PH Au])), we (FQ (f := Dd) (pl ++ De y (Bo ds y1).1.fixed i) (by rw [show i = (Bo ds y1).2.2.1.length from by omega])), Aw⟩) (e2 := wl (oe O) (wl (Eo (f := Dd) (pl ++ De y (Bo ds y1).1.fixed i) (by rw [show i = (Bo ds y1).2.2.1.length from by omega])) (wl (Gw (us ++ (Bo ds y1).2.2.1.take i) (by rw [PH Au])) (wl (oe O) (wl (oe O) (wl (oe O) (wl (oe O) (Ih))))))))
 have hk1 := c1
 have hLl := hL.len
 rw [ZA hk1] at hC1
 refine DF [0] O ?_
 refine A2 [1] O (Bq (i := 0) CN O O (Ff _) (A7 _)) ?_
 refine CQ [2, 5] O (QH w.body gl (Bu.1 (Lm hL.tok)).nd (Bu.1 (Lm hL.tok)).vp (by have := Ft (Lm hL.tok); omega) hgl.2.1 hgl.2.2.1) ?_
 refine Bp [3] O (Az Ba O) fun b24 => ?_
 refine BC [4, 0, 1] rfl ?_ ?_ <;> intro c2
 ·rw [KE (h := (.mk gk gi gn gl gs : Tm)) c2] at hC1
  refine CK [3, 4, 0] O ?_
  refine A5 (BE (i := 4) O) ?_
  refine BP (A9 [0] O (Bg [4] [7] O O ⟨⟨_, _⟩, Gy hC1.symm, O, O⟩))
 obtain ⟨hb1, hb2, hb3, hb4⟩ := X3 (by rw [hC1]; exact hns) c2
 rw [hb4] at hC1
 have hn3 := hns
 rw [← hC1] at hn3
 refine CK [0] O ?_
 refine A5 (CL (i := 3) [10] O (DA ⟨O, Aw⟩)) ?_
 obtain ⟨e, he⟩ | ⟨⟨z, n2⟩, hz⟩ := Mt (K9 s (B9 ((BU w.body gl).1) us.reverse 0))
 ·refine R5 ((fun _ => .p (.iface 178 .unit)) e) 3 [.val (.ptr m 0), .val (.agg ((BD ((BU w.body gl).1)).map .p)), .val (.p (.lst (A6 us))), .val (.p .any), .val (.p (.lst (A6 a))), .val (.ptr b6 (0 + 6)), .val (.p (I f.arity)), .val (.p (.lst (A6 (a.drop ((f.arity : Int).toNat))))), .val (.p .any), .val (.p .any), .val (.p .any)] Ot O Ap O Aw (fun _ _ => by exact ⟨rfl, _, List.nil_sublist _, ⟨_, by rw [← hC1]; exact TM hn3 he, rfl⟩⟩) ?_
  refine DY O O (fun Bs => Bh O) ?_
  refine DY O O (fun Bs => Cy (i := Bs.length + 0) CN O (EB O) Am) ?_
  refine DY O O (fun Bs => Bh O) ?_
  refine X2 (mkp := (fun _ => .p (.iface 178 .unit))) (e := e) [6] he O O (.inl ⟨O, O, O⟩) (fQ m ds s ((BU w.body gl).1) us h3 hb1 hb2 Au) ⟨_, _, O, O, O⟩ As (aw (we O) (aw (we O) (aw (we O) (HT)))) ?_
  refine DY O O (fun Bs => Bh O) ?_
  refine DY O O (fun Bs => BG O2 O O) ?_
  refine DY O O (fun Bs => Ax (i := Bs.length + 4) Dz O (EB O) (C9 _)) ?_
  refine DY O O (fun Bs => Cn (lo := (f.arity : Int).toNat) BS O (CW (Bd _)) ⟨_, pI Au⟩ O AZ (Nat.le_refl _) (MR a ((f.arity : Int).toNat))) ?_
  refine Ik O O Ap ?_
  refine Ik O O Ap ?_
  refine Ik O O Ap ?_
  exact X4
 rw [UI hn3 hz] at hC1
 refine O9 [.box b24 ((BD ((BU w.body gl).1)).map .p), .box b13 ((EC w).map .p), .vec o3 2 (List.map Dd pl) cp3, .box b8 [.p (I 0), .p (I 0), .p (.str ⟨#[]⟩), .p (.nils), .p (.nils)], .box b6 ((Ix f).map .p), .box b5 [.p (I gk), .p (I gi), .p (.str gn), .p (.lst (List.map B4 gl)), .p (.lst (A6 gs))], .box m [.p (.lst (List.map B1 ds)), .p (I n2)]] 3 [.val (.ptr m 0), .val (.agg ((BD ((BU w.body gl).1)).map .p)), .val (.p (.lst (A6 us))), .val (.agg ((BD z).map .p)), .val (.p (.lst (A6 a))), .val (.ptr b6 (0 + 6)), .val (.p (I f.arity)), .val (.p (.lst (A6 (a.drop ((f.arity : Int).toNat))))), .val (.agg ((BD (apply z (a.drop ((f.arity : Int).toNat)))).map .p))] [.p .any, .p (.bool true)] [] Ot O Ap Ap Ap O ?_
 refine Ca O O (fun Bs => Bh O) ?_
 refine MB O O O (fun Bs => Cy (i := Bs.length + 0) CN O (EB O) Am) (fun _ Bs => Cy (i := Bs.length + 0) CN O (EB O) Am) ?_
 refine Ca O O (fun Bs => Bh O) ?_
 refine To O O (fun Bs => Mx [6] O (.inl ⟨O, O, O⟩) (XN hz (fQ m ds s ((BU w.body gl).1) us h3 hb1 hb2 Au)) ⟨_, _, O, O, O⟩ As O (aw (we O) (aw (we O) (aw (we O) (HT))))) ?_
 refine Ca O O (fun Bs => Bh O) ?_
 refine Ca O O (fun Bs => BG O2 O O) ?_
 refine MB O O O (fun Bs => Ax (i := Bs.length + 4) Dz O (EB O) (C9 _)) (fun _ Bs => Ax (i := Bs.length + 4) Dz O (EB O) (C9 _)) ?_
 refine Ca O O (fun Bs => Cn (lo := (f.arity : Int).toNat) BS O (CW (Bd _)) ⟨_, pI Au⟩ O AZ (Nat.le_refl _) (MR a ((f.arity : Int).toNat))) ?_
 refine Ca O O (fun Bs => BF O O (Fp z (a.drop ((f.arity : Int).toNat)) Ab) O) ?_
 refine KL ?_
 refine Hv [.box b24 ((BD ((BU w.body gl).1)).map .p), .box b13 ((EC w).map .p), .vec o3 2 (List.map Dd pl) cp3, .box b8 ((BD (apply z (a.drop ((f.arity : Int).toNat)))).map .p), .box b6 ((Ix f).map .p), .box b5 [.p (I gk), .p (I gi), .p (.str gn), .p (.lst (List.map B4 gl)), .p (.lst (A6 gs))], .box m [.p (.lst (List.map B1 ds)), .p (I n2)]] O (DX (i := 3) CN O O O Am Ag (Gd _)) ?_
 refine Hv [.box b24 ((BD ((BU w.body gl).1)).map .p), .box b13 ((EC w).map .p), .vec o3 2 (List.map Dd pl) cp3, .box b8 ((BD (apply z (a.drop ((f.arity : Int).toNat)))).map .p), .box b6 ((Ix f).map .p), .box b5 [.p (I gk), .p (I gi), .p (.str gn), .p (.lst (List.map B4 gl)), .p (.lst (A6 gs))], .box m [.p (.lst (List.map B1 ds)), .p (I n2)]] O (H7 O) ?_
 refine Oi ?_
 refine Cu (A9 [0] O (Bg [3] [6] O O ⟨⟨_, _⟩, Gy hC1.symm, O, O⟩))
end Go.Proofs.YtldfmjoncbjldaaGreat
namespace Go.Eu
open Go.Abs
def IA (E:List B8) {σ:Type}(S:Sys σ) (n:Nat) (h:Tm) (a:List Tm) (s:σ):Out (Option Tm×σ):=match Gx E h with
 | none=> .ok (none,s)
 | some x =>
  if x.kind=1 then EP S (CR E x.decl) h a s
  else if x.kind=5∧(a.length:Int) > Bv (CR E x.decl) then match Ce E (a.getD (Bv (CR E x.decl)).toNat default) with
   | some _=>ER E S (CR E x.decl) h a (a.getD (Bv (CR E x.decl)).toNat default) s
   | none=>(Di E S n s (a.getD (Bv (CR E x.decl)).toNat default)).bind fun r=>match r.1 with
    | none=> .ok (none,r.2)
    | some y=> .ok (some (apply h (a.set (Bv (CR E x.decl)).toNat y)),r.2)
  else if x.kind=6∧(a.length:Int)≥(Gh (CR E x.decl) x.item).arity then
   Fs E S (Di E S n) h (Gh (CR E x.decl) x.item).arity a n (Gh (CR E x.decl) x.item).tree (a.take (Gh (CR E x.decl) x.item).arity.toNat) (P2 (Gh (CR E x.decl) x.item).arity.toNat) s
  else .ok (none,s)
section
variable {E:List B8}{σ:Type}{S:Sys σ}{n:Nat}{h:Tm}{a:List Tm}{s:σ}{d:B8}{x:Tm}
def uM (h:Tm) (a:List Tm) (k:Nat) (r:Option Tm×σ):Out (Option Tm×σ):=match r.1 with
 | none=> .ok (none,r.2)
 | some y=> .ok (some (apply h (a.set k y)),r.2)
theorem je {k:Nat}{r:Option Tm×σ}(hr:r.1.isSome=false):uM h a k r= .ok (none,r.2):=by
 obtain⟨q,s⟩:=r;cases q with
 | none=>rfl
 | some x=>cases hr
theorem kP {k:Nat}{r:Option Tm×σ}(hr:r.1.isSome=true):uM h a k r= .ok (some (apply h (a.set k (r.1.getD BN))),r.2):=by
 obtain⟨q,s⟩:=r;cases q with
 | none=>cases hr
 | some x=>rfl
theorem Y8 (hu:Up E h=false):IA E S n h a s= .ok (none,s):=by
 unfold IA;rw[Df,hu];simp
section
variable (hu:Up E h=true) (hd:E[(BY E h.name).1.decl.toNat]?=some d)
include hu hd
theorem e9 (hk:(BY E h.name).1.kind=1):IA E S n h a s=EP S d h a s:=by
 unfold IA;rw[Df,hu,if_pos rfl];simp only[if_pos hk,CR,CO hd]
theorem mj (hk:(BY E h.name).1.kind=5) (hl:(a.length:Int)≤Bv d):IA E S n h a s= .ok (none,s):=by
 unfold IA;rw[Df,hu,if_pos rfl];simp only[CR,CO hd];rw[if_neg Au,if_neg Au,if_neg Au]
theorem ZC (hk:(BY E h.name).1.kind=5) (hl:¬(a.length:Int)≤Bv d) (hx:a[(Bv d).toNat]?=some x) {q:B8×Int×List Tm}(hc:Ce E x=some q):IA E S n h a s=ER E S d h a x s:=by
 unfold IA;rw[Df,hu,if_pos rfl];simp only[CR,CO hd];rw[if_neg Au,if_pos ⟨hk,by omega⟩,CO hx];simp only[hc]
theorem YF (hk:(BY E h.name).1.kind=5) (hl:¬(a.length:Int)≤Bv d) (hx:a[(Bv d).toNat]?=some x) (hc:Ce E x=none):IA E S n h a s=(Di E S n s x).bind (uM h a (Bv d).toNat):=by
 unfold IA;rw[Df,hu,if_pos rfl];simp only[CR,CO hd];rw[if_neg Au,if_pos ⟨hk,by omega⟩,CO hx];simp only[hc];rfl
theorem e8 {f:I9}(hk:(BY E h.name).1.kind=6) (hf:d.funs[(BY E h.name).1.item.toNat]?=some f) (hl:f.arity≤(a.length:Int)):IA E S n h a s=Fs E S (Di E S n) h f.arity a n f.tree (a.take f.arity.toNat) (P2 f.arity.toNat) s:=by
 unfold IA;rw[Df,hu,if_pos rfl];simp only[CR,CO hd,Gh,CO hf];rw[if_neg Au,if_neg Au,if_pos ⟨hk,by omega⟩]
theorem lT {f:I9}(hk:(BY E h.name).1.kind=6) (hf:d.funs[(BY E h.name).1.item.toNat]?=some f) (hl:¬f.arity≤(a.length:Int)):IA E S n h a s= .ok (none,s):=by
 unfold IA;rw[Df,hu,if_pos rfl];simp only[CR,CO hd,Gh,CO hf];rw[if_neg Au,if_neg Au,if_neg Au]
theorem ky (h1:(BY E h.name).1.kind≠1) (h5:¬((BY E h.name).1.kind=5∧(a.length:Int) > Bv d)) (h6:¬((BY E h.name).1.kind=6∧(a.length:Int)≥(Gh d (BY E h.name).1.item).arity)):IA E S n h a s= .ok (none,s):=by
 unfold IA;rw[Df,hu,if_pos rfl];simp only[CR,CO hd];rw[if_neg h1,if_neg h5,if_neg h6]
omit hd
theorem uJ (h1:(BY E h.name).1.kind≠1) (h5:(BY E h.name).1.kind≠5) (h6:(BY E h.name).1.kind≠6):IA E S n h a s= .ok (none,s):=by
 unfold IA;rw[Df,hu,if_pos rfl];simp only;rw[if_neg h1,if_neg Au,if_neg Au]
end
end
section
variable {E:List B8}{σ:Type}{S:Sys σ}{n:Nat}{t:Tm}{s:σ}{X:Out (Option Tm×σ)}
theorem Tb (h:Di E S n s t=X) (hX:X≠ .stuck):∃k,n=k+1:=by
 cases n with
 | zero=>rw[Di] at h;exact absurd h.symm hX
 | succ k=>exact⟨k,rfl⟩
theorem dr (h:Di E S (n+1) s t=X) (hX:X≠ .stuck):okB t=true:=by
 rw[Di] at h;split at h
 ·exact absurd h.symm hX
 rename_i hc;simpa using hc
section
variable (ho:okB t=true)
include ho
theorem TB (hk:(Ay t).1.kind=5) (hl:(Ay t).2.length=0):Di E S (n+1) s t= .ok (none,s):=by
 rw[Di,if_neg (by simp[ho]),if_pos hk,if_pos hl]
theorem XA {b:Tm}(hk:(Ay t).1.kind=5) (hl:(Ay t).2.length≠0) (hb:(Ay t).1.kids[1]?=some b) :
  Di E S (n+1) s t=S.put s (B9 b ((Ay t).2.take 1) 0) fun x s'=> .ok (some (apply x ((Ay t).2.drop 1)),s'):=by
 rw[Di,if_neg (by simp[ho]),if_pos hk,if_neg hl,KC,hb]
theorem Wo {v b:Tm}(hk:(Ay t).1.kind=11) (hv:(Ay t).1.kids[1]?=some v) (hb:(Ay t).1.kids[2]?=some b) :
  Di E S (n+1) s t=S.put s (B9 b [v] 0) fun x s'=> .ok (some (apply x (Ay t).2),s'):=by
 rw[Di,if_neg (by simp[ho]),if_neg Au,if_pos hk,OV,hv,hb]
def tJ (h:Tm) (a:List Tm) (r:Option Tm×σ):Out (Option Tm×σ):=match r.1 with
 | none=> .ok (none,r.2)
 | some x=> .ok (some (apply (Ha h.kind x) a),r.2)
theorem T6 {p q:Tm}(hk:(Ay t).1.kind=9∨(Ay t).1.kind=10) (hp:(Ay t).1.kids[0]?=some p) (h8:p.kind=8) (hq:p.kids[(1+(Ay t).1.kind - 9).toNat]?=some q) :
  Di E S (n+1) s t=S.put s (q,0) fun x s'=> .ok (some (apply x (Ay t).2),s'):=by
 rw[Di,if_neg (by simp[ho]),if_neg Au,if_neg Au,if_pos hk,hp];simp only;rw[if_pos h8,Jf,hq]
theorem US {p:Tm}(hk:(Ay t).1.kind=9∨(Ay t).1.kind=10) (hp:(Ay t).1.kids[0]?=some p) (h8:p.kind≠8) :
  Di E S (n+1) s t=(Di E S n s p).bind (tJ (Ay t).1 (Ay t).2):=by
 rw[Di,if_neg (by simp[ho]),if_neg Au,if_neg Au,if_pos hk,hp];simp only;rw[if_neg h8];rfl
theorem Nb (hk:(Ay t).1.kind=3):Di E S (n+1) s t=IA E S n (Ay t).1 (Ay t).2 s:=by
 rw[Di,if_neg (by simp[ho]),if_neg Au,if_neg Au,if_neg Au,if_pos hk];rfl
theorem dB (h1:(Ay t).1.kind≠5) (h2:(Ay t).1.kind≠11) (h3:(Ay t).1.kind≠9) (h4:(Ay t).1.kind≠10) (h5:(Ay t).1.kind≠3):Di E S (n+1) s t= .ok (none,s):=by
 rw[Di,if_neg (by simp[ho]),if_neg h1,if_neg h2,if_neg Au,if_neg h5]
end
theorem jt {h:Tm}{a:List Tm}{r:Option Tm×σ}(hr:r.1.isSome=false):tJ h a r= .ok (none,r.2):=by
 obtain⟨q,s⟩:=r;cases q with
 | none=>rfl
 | some x=>cases hr
theorem mH {h:Tm}{a:List Tm}{r:Option Tm×σ}(hr:r.1.isSome=true):tJ h a r= .ok (some (apply (Ha h.kind (r.1.getD BN)) a),r.2):=by
 obtain⟨q,s⟩:=r;cases q with
 | none=>cases hr
 | some x=>rfl
end
section
variable {E:List B8}{σ:Type}{S:Sys σ}{n:Nat}{t:Tm}{s:σ}{r:Tm×σ}{d:B8}{X:Out (Option Int×σ)}
section
variable (hk:(Ay r.1).1.kind=3) (hu:Up E (Ay r.1).1=true) (ho:S.over r.2=false) (hd:E[(BY E (Ay r.1).1.name).1.decl.toNat]?=some d)
include hk hu ho
include hd
end
end
section
variable {E:List B8}{σ:Type}{S:Sys σ}{n:Nat}{t:FY}{a:List Tm}{s:σ}
end
end Go.Eu
