/- Part of the proofs: an abstract program logic, plain models and contracts of functions. -/
import Derived.Shelf.SlIterI.Nil
import Derived.Shelf.SortM.Plain
import Derived.Shelf.SortM.SortNone
import Derived.Ground.GgzProg
import Derived.Ground.SlgmProg
import Derived.Test.YtldfmjoncbjldaaGreatProg
import Derived.Test.YtldfmjoncbjldaaGreatPg
import Derived.Test.YtldfmjoncbjldaaGreatPb
import Derived.Test.YtldfmjoncbjldaaGreatPh
import Derived.Test.YtldfmjoncbjldaaGreatPd
import Derived.Test.YtldfmjoncbjldaaGreatPe
import Derived.Test.YtldfmjoncbjldaaGreatPf
import Derived.Test.YtldfmjoncbjldaaGreatPc
set_option linter.unusedVariables false
set_option linter.unusedSimpArgs false
set_option maxRecDepth 100000
namespace Go.Proofs
open Go.Shelf
def Tryz.keysA_ren:Go.Shelf.Ren:=⟨fun | 7=>196 | 10=>207 | n=>n,fun | 23=>253 | 26=>3 | 3=>3 | 28=>270 | 0=>0 | 27=>269 | 33=>278 | 4=>4 | n=>n,fun | n=>n⟩
theorem Tryz.keysA:Go.Proofs.SlLaysZI.n7 Tryz.prog Tryz.keysA_ren:={
 mixed:=by kernel_rfl
 f7:=⟨Tryz.f196.name,by decide,Tryz.func196.trans (congrArg some Ap)⟩
 f10:=⟨Tryz.f207.name,by decide,Tryz.func207.trans (congrArg some Ap)⟩
 t0:=Tryz.underlying0
 a0:=Tryz.isAgg0
 z0:=Tryz.sizeOf0
 v0:=Tryz.zeroValue0
 t4:=Tryz.underlying4
 a4:=Tryz.isAgg4
 z4:=Tryz.sizeOf4
 v4:=Tryz.zeroValue4
 t23:=Tryz.underlying253
 a23:=Tryz.isAgg253
 z23:=Tryz.sizeOf253
 v23:=Tryz.zeroValue253
 t26:=Tryz.underlying3
 a26:=Tryz.isAgg3
 z26:=Tryz.sizeOf3
 v26:=Tryz.zeroValue3
 t27:=Tryz.underlying269
 a27:=Tryz.isAgg269
 z27:=Tryz.sizeOf269
 v27:=Tryz.zeroValue269
 t28:=Tryz.underlying270
 a28:=Tryz.isAgg270
 z28:=Tryz.sizeOf270
 v28:=Tryz.zeroValue270
 t33:=Tryz.underlying278
 a33:=Tryz.isAgg278
 z33:=Tryz.sizeOf278
 v33:=Tryz.zeroValue278 }
def Tryz.sortedA_ren:Go.Shelf.Ren:=⟨fun | 6=>195 | 8=>205 | 9=>206 | 11=>212 | 13=>214 | 12=>213 | 23=>224 | 24=>225 | 14=>215 | 15=>216 | 16=>217 | 17=>218 | 18=>219 | 19=>220 | 20=>221 | 21=>222 | 22=>223 | 25=>226 | 26=>227 | 27=>228 | 28=>229 | 29=>230 | 30=>231 | 31=>232 | n=>n,fun | 26=>3 | 28=>270 | 24=>150 | 0=>0 | 3=>3 | 37=>286 | 48=>296 | 50=>298 | 4=>4 | 40=>289 | 39=>288 | 45=>267 | 5=>5 | 9=>9 | 51=>299 | 55=>303 | 57=>305 | 58=>85 | 33=>278 | n=>n,fun | n=>n⟩
theorem Tryz.sortedA:Go.Proofs.SlLaysZI.n6 Tryz.prog Tryz.sortedA_ren:={
 mixed:=by kernel_rfl
 f6:=⟨Tryz.f195.name,by decide,Tryz.func195.trans (congrArg some Ap)⟩
 f8:=⟨Tryz.f205.name,by decide,Tryz.func205.trans (congrArg some Ap)⟩
 f11:=⟨Tryz.f212.name,by decide,Tryz.func212.trans (congrArg some Ap)⟩
 t0:=Tryz.underlying0
 a0:=Tryz.isAgg0
 z0:=Tryz.sizeOf0
 v0:=Tryz.zeroValue0
 t24:=Tryz.underlying150
 a24:=Tryz.isAgg150
 z24:=Tryz.sizeOf150
 v24:=Tryz.zeroValue150
 t26:=Tryz.underlying3
 a26:=Tryz.isAgg3
 z26:=Tryz.sizeOf3
 v26:=Tryz.zeroValue3
 t28:=Tryz.underlying270
 a28:=Tryz.isAgg270
 z28:=Tryz.sizeOf270
 v28:=Tryz.zeroValue270
 i26:=by kernel_rfl }
def Tryz.sortA_ren:Go.Shelf.Ren:=⟨fun | 5=>206 | 8=>214 | 7=>213 | 19=>224 | 20=>225 | 10=>215 | 11=>216 | 12=>217 | 13=>218 | 14=>219 | 15=>220 | 16=>221 | 17=>222 | 18=>223 | 30=>226 | 31=>227 | 32=>228 | 33=>229 | 34=>230 | 35=>231 | 40=>232 | n=>n,fun | 23=>150 | 25=>3 | 3=>3 | 32=>286 | 22=>150 | 0=>0 | 44=>296 | 46=>298 | 4=>4 | 36=>289 | 35=>288 | 41=>267 | 5=>5 | 9=>9 | 53=>299 | 57=>303 | 63=>305 | 64=>85 | n=>n,fun | n=>n⟩
theorem Tryz.sortA:Go.Proofs.SlLaysM.n5 Tryz.prog Tryz.sortA_ren:={
 mixed:=by kernel_rfl
 f5:=⟨Tryz.f206.name,by decide,Tryz.func206.trans (congrArg some Ap)⟩
 f7:=⟨Tryz.f213.name,by decide,Tryz.func213.trans (congrArg some Ap)⟩
 f8:=Tryz.func214.trans (congrArg some Ap)
 f10:=⟨Tryz.f215.name,by decide,Tryz.func215.trans (congrArg some Ap)⟩
 f11:=⟨Tryz.f216.name,by decide,Tryz.func216.trans (congrArg some Ap)⟩
 f12:=⟨Tryz.f217.name,by decide,Tryz.func217.trans (congrArg some Ap)⟩
 f13:=⟨Tryz.f218.name,by decide,Tryz.func218.trans (congrArg some Ap)⟩
 f14:=⟨Tryz.f219.name,by decide,Tryz.func219.trans (congrArg some Ap)⟩
 f15:=⟨Tryz.f220.name,by decide,Tryz.func220.trans (congrArg some Ap)⟩
 f16:=⟨Tryz.f221.name,by decide,Tryz.func221.trans (congrArg some Ap)⟩
 f17:=⟨Tryz.f222.name,by decide,Tryz.func222.trans (congrArg some Ap)⟩
 f18:=⟨Tryz.f223.name,by decide,Tryz.func223.trans (congrArg some Ap)⟩
 f19:=Tryz.func224.trans (congrArg some Ap)
 f20:=Tryz.func225.trans (congrArg some Ap)
 f30:=⟨Tryz.f226.name,by decide,Tryz.func226.trans (congrArg some Ap)⟩
 f31:=Tryz.func227.trans (congrArg some Ap)
 f32:=Tryz.func228.trans (congrArg some Ap)
 f33:=⟨Tryz.f229.name,by decide,Tryz.func229.trans (congrArg some Ap)⟩
 f34:=⟨Tryz.f230.name,by decide,Tryz.func230.trans (congrArg some Ap)⟩
 f35:=⟨Tryz.f231.name,by decide,Tryz.func231.trans (congrArg some Ap)⟩
 f40:=⟨Tryz.f232.name,by decide,Tryz.func232.trans (congrArg some Ap)⟩
 t0:=Tryz.underlying0
 a0:=Tryz.isAgg0
 z0:=Tryz.sizeOf0
 v0:=Tryz.zeroValue0
 t3:=Tryz.underlying3
 a3:=Tryz.isAgg3
 z3:=Tryz.sizeOf3
 v3:=Tryz.zeroValue3
 t4:=Tryz.underlying4
 a4:=Tryz.isAgg4
 z4:=Tryz.sizeOf4
 v4:=Tryz.zeroValue4
 t5:=Tryz.underlying5
 a5:=Tryz.isAgg5
 z5:=Tryz.sizeOf5
 v5:=Tryz.zeroValue5
 t9:=Tryz.underlying9
 a9:=Tryz.isAgg9
 z9:=Tryz.sizeOf9
 v9:=Tryz.zeroValue9
 t22:=Tryz.underlying150
 a22:=Tryz.isAgg150
 z22:=Tryz.sizeOf150
 v22:=Tryz.zeroValue150
 t23:=Tryz.underlying150
 a23:=Tryz.isAgg150
 z23:=Tryz.sizeOf150
 v23:=Tryz.zeroValue150
 t25:=Tryz.underlying3
 a25:=Tryz.isAgg3
 z25:=Tryz.sizeOf3
 v25:=Tryz.zeroValue3
 t32:=Tryz.underlying286
 a32:=Tryz.isAgg286
 z32:=Tryz.sizeOf286
 v32:=Tryz.zeroValue286
 t35:=Tryz.underlying288
 a35:=Tryz.isAgg288
 z35:=Tryz.sizeOf288
 v35:=Tryz.zeroValue288
 t36:=Tryz.underlying289
 a36:=Tryz.isAgg289
 z36:=Tryz.sizeOf289
 v36:=Tryz.zeroValue289
 t41:=Tryz.underlying267
 a41:=Tryz.isAgg267
 z41:=Tryz.sizeOf267
 v41:=Tryz.zeroValue267
 t44:=Tryz.underlying296
 a44:=Tryz.isAgg296
 z44:=Tryz.sizeOf296
 v44:=Tryz.zeroValue296
 t46:=Tryz.underlying298
 a46:=Tryz.isAgg298
 z46:=Tryz.sizeOf298
 v46:=Tryz.zeroValue298
 t53:=Tryz.underlying299
 a53:=Tryz.isAgg299
 z53:=Tryz.sizeOf299
 v53:=Tryz.zeroValue299
 t57:=Tryz.underlying303
 a57:=Tryz.isAgg303
 z57:=Tryz.sizeOf303
 v57:=Tryz.zeroValue303
 t63:=Tryz.underlying305
 a63:=Tryz.isAgg305
 z63:=Tryz.sizeOf305
 v63:=Tryz.zeroValue305
 t64:=Tryz.underlying85
 a64:=Tryz.isAgg85
 z64:=Tryz.sizeOf85
 v64:=Tryz.zeroValue85 }
end Go.Proofs
namespace Go.Proofs
open Go.RowKit Go.Maps Go.Sort Go.Shelf
theorem Tryz.sortsA (m:Nat):AnyZI.SortsIn Tryz.prog Tryz.sortedA_ren Fence.wide m :=
 ⟨fun blk off cap ss W hH hblk hsz=>callsIn_wide.2 (AnyM.slices_Sort_int Tryz.sortA blk off cap ss W hH hblk hsz),
  fun p cap W=>callsIn_wide.2 (AnyM.slices_Sort_int_none Tryz.sortA p cap W)⟩
set_option maxHeartbeats 1000000 in
theorem Tryz.sortedKeys {H:Type}(Bm b nn:Nat) (D0:DataW H) (R:Value→Option (DataW H×List MemPlace)) (w:World) (hBm:Bm<w.heap.size) (hcell:w.cell? ⟨Bm,0,none⟩=some (.map (some b))) (hown:w.ownsMap Tryz.prog 3 R b nn D0) (hmax:Maps.size D0≤maxLen) (hbytes:Maps.size D0*8≤140737488355328) :
  Calls Tryz.prog 195 #[.func (.func 207) #[] #[.pointer (some ⟨Bm,0,none⟩)]] w fun e w'=>∃(v:Value) (ss:List Int),e= .returned v∧ss.Perm (intKeys D0) ∧
   w'.ownsRow w.heap.size 3 1 v ss.length ((ss.mergeSort (fun x y=>decide (x≤y))).map encZ)∧(v= .slice none 0 0↔ss=[])∧Below w.heap.size w w':=by
 refine(callsIn_wide (n:=5)).1 ?_;have hseq:SeqGives Fence.wide 2 Tryz.prog 207 #[.pointer (some ⟨Bm,0,none⟩)] encZ (fun ss=>ss.Perm (intKeys D0)) (Maps.size D0) w :=
  AnyZI.keys_gives (ρ:=Tryz.keysA_ren) { Tryz.keysA with } Fence.wide _ trivial rfl Au Bm b nn D0 w hBm hcell hown
 exact AnyZI.sorted_in Tryz.sortedA Fence.wide 5 Aw Aw Aw Aw O Au (Tryz.sortsA _) (enters_of Tryz.func206 Ap O) 207 #[.pointer (some ⟨Bm,0,none⟩)] Aw (enters_of Tryz.func207 Ap O) _ _ hmax hbytes _ hseq
end Go.Proofs
namespace Go.Proofs.YtldfmjoncbjldaaGreat
open Go.Abs Go.Eu
theorem pP:∀(m:Nat),BL Tryz.prog 196 [.map m] [] (Wz (fun b=> .fn (.func 207) [] [.ptr b 0]) [.map m]):=by
 intro m;refine DJ Tryz.func196 (CG [0] O O fun b1=>A9 [3] O (Bg [] [0] O O ⟨_,O,O⟩))
theorem gI:∀(b m:Nat) (M:List (Int×Int)),M.length<1000000→(∀k∈M.map Prod.fst,-65536≤k∧k<8)→BL Tryz.prog 195 [.fn (.func 207) [] [.ptr b 0]] [.box b [.map m],.map m (Em (H8 M))] (Gh (.p (.lst ((G0 (M.map Prod.fst)).map Fy))) [.box b [.map m],.map m (Em (H8 M))]):=fun b m M h1 h2=>Rb (kT:=3) (eT:=3) Ap Ap (fun Bm b nn D0 R w g1 g2 g3 g4 g5=>Tryz.sortedKeys Bm b nn D0 R w g1 g2 g3 g4 g5) b m M h1 h2
theorem ig:∀(s m:Nat) (M:List (Int×Int)) (C:Int),(cu (M,C))→BL Tryz.prog 181 [.ptr s 0] [.box s [.map m,.p (I C)],.map m (Em (H8 M))] (Gh (.tup [.agg ((B4 ((Lg ⟨C,IT M⟩).1)).map .p),.p (I ((Lg ⟨C,IT M⟩).2))]) [.box s [.map m,.p (I C)],.map m (Em (H8 M))]):=by
 intro s m M C h1;have hkl:(G0 (M.map Prod.fst)).length=M.length:=by simp[Vl]
 have hml:M.length≤65544:=h1.len;refine DJ Tryz.func181 (Bp [0] O (Az FH O) fun b2=>Bp [6,1] O (Az FH O) fun b4=>DT [1,0,0] O (BJ (EX (i:=0) O (Up (aw (we O) (aw (I1) (HW))))) (BJ (H7 (sz:=2)) (BW (DT [4,3] O ?_)))));refine PR O O O (.inl ⟨O,O,O⟩) (pP m) (Ds _) fun bk=>BW (A2 [0] O (Bi [0,5] O (.inl ⟨O,O,O⟩) (gI bk m M Au h1.r) ⟨_,_,O,O,⟨_,_,O,O,O⟩⟩ As O (.inl O)) ?_);refine B9 [0] O O (List.length_map _) (GG (α:=Nat×Option Nat×Nat) [1] [0,2,4,17,18] [1,2,3,4,5] (fun(i,o,cp)=>[(19,.p (I (i:Int)))]) (fun(i,o,cp)=>[(0,.vec o 2 (List.map E0 (((G0 (M.map Prod.fst)).take i).map (Ur M))) cp),(1,.box b4 [.p (I C),.vs o (List.map E0 (((G0 (M.map Prod.fst)).take i).map (Ur M))).length cp])]) (fun(i,o,cp)=>(G0 (M.map Prod.fst)).length - i) (fun(i,o,cp)=>i≤(G0 (M.map Prod.fst)).length) ⟨0,none,0⟩ O O O AY ?_);rintro⟨i,o,cp⟩ hC
 try simp only at hC
 have hi:=hC;refine BC [1] rfl ?_ ?_<;>intro c
 ·refine D6 [0] (G0 (M.map Prod.fst)) i O O O (H5 (f:=Fy) fun _=>O) (fun x hx=>?_);refine E2 [2] [11] O (Bb [8,1,3] O ?_);refine CF (j:=4) O O O (fun H i hi=>ZB (i:=i) kD jR (fun _ _=>by simp[Bz,Br]) rfl rfl hi (Zh _ _)) AB trivial ?_;refine A3 O (fun _=>EV vf G8 O) Aw (A3 O (fun _=>BH DC G8 O O O O O) Aw (JT [] O O (Bh (i:=0) (rows':=List.map E0 [(B6.mk x ((mg x M).getD 0))]) DC DC G8 O O O O O O (HG _) AF (Fz (f:=E0) (((G0 (M.map Prod.fst)).take i).map (Ur M)) [(B6.mk x ((mg x M).getD 0))])) Ap fun o1 cp1=>⟨AB,Aw,?_⟩));exact CY tab 2 [1,0] O (Cu (FR [2] 0 ⟨i+1,o1,cp1⟩ O Au (e2:=wl (Eo (f:=E0) (((G0 (M.map Prod.fst)).take i).map (Ur M)++[(B6.mk x ((mg x M).getD 0))]) (by rw[List.take_add_one,hx];simp[Ur])) (wl (Up (aw (we O) (aw (we (FQ (f:=E0) (((G0 (M.map Prod.fst)).take i).map (Ur M)++[(B6.mk x ((mg x M).getD 0))]) (by rw[List.take_add_one,hx];simp[Ur]))) (HW)))) (wl (oe O) (wl (oe O) (wl (oe O) (Ie))))))))
 refine DH [0] O (DT [0] O (BJ (Cf (i:=0) (j:=1) (q:=1) [] O O O (DA Aw)) (BW (CQ [1,0] O (dI (CW.mk C (((G0 (M.map Prod.fst)).take i).map (Ur M))) (by simp only[List.length_map,List.length_take,DZ];omega)) ?_))));refine A9 [4,1,1] O (Bg [1] [2,3] O O ⟨by rw[show ((G0 (M.map Prod.fst)).take i).map (Ur M)=IT M from cO Au];try rfl,rfl⟩)
theorem jE:∀(l:CW) (ps:List CW),(N5 l)→(ps.length<DZ)→(∀p∈ps,N5 p)→En Tryz.prog 147 [.agg ((B4 l).map .p),.p (.lst (List.map B4 ps))] (.tup [.agg ((B4 ((Kx l ps).1)).map .p),.p (I ((Kx l ps).2))]):=by
 intro l ps h1 h2 h3;have hl:=h1.vars;have hl2:=h2;simp only[DZ] at hl hl2;refine DJ Tryz.func147 (CG [0] O O fun b2=>Bp [0] O (Az FH O) fun b4=>CJ [1] 1 [1,2,4] 16 ((!(B1 l))||(!(ps.all B1))) O O ?_ ?_)
 ·refine CQ [1,1] O (UD l h1) ?_;refine Bc [2] 12 rfl rfl ?_ ?_<;>intro g
  ·exact CT [4] O
  exact CQ [1] O (Zn ps h2 h3) (CT [2] O)
 refine BC [0] rfl ?_ ?_<;>intro c
 ·refine CK [3,0,0] O (A5 (BE (i:=0) O) ?_);refine BP (A9 [0] O (Bg [0] [] O O ⟨by rw[show Kx l ps=(GA,3) by rw[Kx,if_pos (by simpa using c)]];rfl,rfl⟩))
 have hv:B1 l=true∧ps.all B1=true:=by simpa using c
 refine CQ [1,1] O (fp l h1) (B9 [1] O O (List.length_map _) ?_);refine BC [1] rfl ?_ ?_<;>intro c1
 ·refine CK [3,0,0] O (A5 (BE (i:=0) O) ?_);refine BP (A9 [0] O (Bg [0] [] O O ⟨by rw[show Kx l ps=(GA,24) by rw[Kx,if_neg (by simp[hv]),if_pos c1]];rfl,rfl⟩))
 have hpl:¬(HX l > ps.length):=by omega
 refine DT [0] O (fW O O O (.inl ⟨O,O,O⟩) kY (Ds _) fun bs=>?_);obtain⟨bs,mm⟩:=bs;refine BW (B9 [9,3,0,0,3] O O (List.length_map _) ?_);refine GG (α:=Nat) [1] [1,4,6,31,32] [0,1,2] (fun i=>[(33,.p (I (i:Int)))]) (fun i=>[(0,.box bs [.map mm,.p (I (((l.vars.take i).foldl (Et ps) ([],l.const)).2))]),(1,.map mm (Em (H8 ((l.vars.take i).foldl (Et ps) ([],l.const)).1)))]) (fun i=>l.vars.length - i) (fun i=>i≤l.vars.length) 0 O O O AY ?_;rintro i hC
 try simp only at hC
 have hi:=hC;refine BC [1] rfl ?_ ?_<;>intro c2
 ·obtain⟨x,hx⟩:=A1 (l:=l.vars) (i:=i) Au;have hw:=Ll hv.1 hx;have hpi:=mz hv.1 hpl hx;refine A2 [0] O (A0 DC O O Au (DP hx) (O)) (Bp [1] O (Az G8 O) fun b8=>?_);refine BC [4,0,1,0] rfl ?_ ?_<;>intro c3
  ·exact E2 [0] [] O (Bb [8,1,0,0] O (FB O O (Bi [2] O (.inl ⟨O,O,O⟩) (Ys mm (((l.vars.take i).foldl (Et ps) ([],l.const)).1) x.index x.plus) ⟨_,_,O,O,O⟩ As O (.inl O)) AB Aw (HM O Ap (Cu (FR [2] 1 (i+1) O Au (e2:=wl (ob (by first | (simp only[step_take hx,Xh c3];done) | (simp only[step_take hx,XL c3 hx1];done))) (wl (om (by first | (simp only[step_take hx,Xh c3];done) | (simp only[step_take hx,XL c3 hx1];done))) (wl (oe O) (Ie)))))))))
  refine E2 [0] [] O (Bb [4,0] O ?_);obtain⟨x1,hx1⟩:=A1 (l:=ps) (i:=(x.index:Int).toNat) Au;exact A3 O (fun _=>A0 KW O O Au (PW hx1) (E4 _)) Aw (Bb [3,0] O (FB O O (Bi [1,2] O (.inl ⟨O,O,O⟩) (pz bs mm (((l.vars.take i).foldl (Et ps) ([],l.const)).1) (((l.vars.take i).foldl (Et ps) ([],l.const)).2) x1 x.plus (Js.of (List.all_eq_true.1 hv.2 _ (List.mem_of_getElem? hx1))) hw.1.1 hw.1.2) ⟨_,_,O,O,⟨_,_,O,O,O⟩⟩ As O (.inl O)) AB Aw (HM O Ap (Cu (FR [2] 1 (i+1) O Au (e2:=wl (ob (by first | (simp only[step_take hx,Xh c3];done) | (simp only[step_take hx,XL c3 hx1];done))) (wl (om (by first | (simp only[step_take hx,Xh c3];done) | (simp only[step_take hx,XL c3 hx1];done))) (wl (oe O) (Ie)))))))))
 refine DH [0] O ?_;have hfin:cu ((l.vars.take i).foldl (Et ps) ([],l.const)):=cu.fold (List.all_eq_true.1 hv.2) _ _ (cu.zero _) (fun x hx=>by
  obtain⟨j,hj⟩:=List.mem_iff_getElem?.1 (List.mem_of_mem_take hx);exact⟨Ll hv.1 hj,mz hv.1 hpl hj⟩)
 refine A2 [1] O (Bi [0,1] O (.inl ⟨O,O,O⟩) (ig bs mm (((l.vars.take i).foldl (Et ps) ([],l.const)).1) (((l.vars.take i).foldl (Et ps) ([],l.const)).2) hfin) ⟨_,_,O,O,⟨_,_,O,O,O⟩⟩ As O (.inl O)) ?_;refine A9 [4,2,1] O (Bg [2] [] O O ⟨by rw[show Kx l ps=Lg ⟨(l.vars.foldl (Et ps) ([],l.const)).2,IT (l.vars.foldl (Et ps) ([],l.const)).1⟩ by rw[Kx,if_neg (by simp[hv]),if_neg hpl]];rw[show l.vars.take i=l.vars from List.take_of_length_le Au];try rfl,rfl⟩)
theorem mX:∀(t:Tm),(Nd t)→BL Tryz.prog 95 [.agg ((BD t).map .p)] [] (oZ (fun p:Option Nat×Nat=> .agg [.p (I t.kind),.p (I t.index),.p (.str t.name),.vs p.1 (List.map B4 t.levels).length p.2,.p (.lst [])]) (fun p=>[.vec p.1 2 (List.map B4 t.levels) p.2])):=by
 intro t h1;obtain⟨tk,ti,tn,tl,ts⟩:=t;simp only[Nd,DZ] at h1;refine DJ Tryz.func95 (CG [0] O O fun b1=>Bp [0] O (Az Ba O) fun b2=>Bp [7,1,1,1] O (Az Ba O) fun b3=>DT [1,0,0] O (BJ (EX (i:=0) O (Up (aw (we O) (aw (we O) (aw (we O) (aw (I1) (aw (we O) (HW)))))))) (BJ (H7 (sz:=2)) (BW (B9 [2,3] O O (List.length_map _) ?_)))));refine GG (α:=Nat×Option Nat×Nat) [1] [2,3,14,15] [0,1,2] (fun(i,o,cp)=>[(16,.p (I (i:Int)))]) (fun(i,o,cp)=>[(0,.vec o 2 (List.map B4 (tl.take i)) cp),(1,.box b3 [.p (I tk),.p (I ti),.p (.str tn),.vs o (List.map B4 (tl.take i)).length cp,.p (.nils)])]) (fun(i,o,cp)=>tl.length - i) (fun(i,o,cp)=>i≤tl.length) ⟨0,none,0⟩ O O O AY ?_;rintro⟨i,o,cp⟩ hC
 try simp only at hC
 have hi:=hC;refine BC [1] rfl ?_ ?_<;>intro c
 ·refine D6 [0] tl i O O O (H5 E4) (fun x hx=>?_);refine Bp [1] O (Az FH O) fun b5=>E2 [1,0,0] [9] O (Bb [6,2,0,0] O (A3 O (fun _=>M4 (rows':=List.map E0 x.vars) DC DC G8 O O (fun _ _ _ h=>Xw h) O (HG _) (by have:=h1.2.2.1 x (List.mem_of_getElem? hx);have:=this.1;simp only[DZ] at this;simp only[List.length_map];omega)) Aw (A3 O (fun _=>EV r9 FH O) Aw (A3 O (fun _=>BH KW FH O O O O O) Aw (JT [] O O (Bh (i:=1) (rows':=List.map B4 [(CW.mk x.const x.vars)]) KW KW FH O O O O O O (NZ _) AM (Fz (f:=B4) (tl.take i) [(CW.mk x.const x.vars)])) Ap fun o1 cp1=>⟨AB,Aw,?_⟩)))));exact CY tab 2 [2,0] O (Cu (FR [2] 1 ⟨i+1,o1,cp1⟩ O Au (e2:=wl (Eo (f:=B4) (tl.take i++[(CW.mk x.const x.vars)]) (by rw[List.take_add_one,hx];rfl)) (wl (Up (aw (we O) (aw (we O) (aw (we O) (aw (we (FQ (f:=B4) (tl.take i++[(CW.mk x.const x.vars)]) (by rw[List.take_add_one,hx];rfl))) (aw (we O) (HW))))))) (wl (oe O) (Ie))))))
 refine DH [0] O (CK [2,1,2,0] O (A5 (BE (i:=2) O) (BP (A9 [0] O (Bg [2] [0] O O ?_)))));have htk:tl.take i=tl:=List.take_of_length_le Au;exact⟨(o,cp),by rw[htk];simp[Tm.kind,Tm.index,Tm.name,Tm.levels,splice,dn],by rw[htk];rfl⟩
theorem mf:∀(tk ti:Int) (tn:ByteArray) (tl:List CW) (ts:List Tm),Nd (.mk tk ti tn tl ts)→BL Tryz.prog 95 [TV (.mk tk ti tn tl ts)] [] (oZ (fun p:Option Nat×Nat=> .agg [.p (I tk),.p (I ti),.p (.str tn),.vs p.1 (List.map B4 tl).length p.2,.p (.lst [])]) (fun p=>[.vec p.1 2 (List.map B4 tl) p.2])):=fun tk ti tn tl ts h=>mX _ h
theorem s7:∀(l:CW) (ps:List CW),(N5 l)→(ps.length<DZ)→(∀p∈ps,N5 p)→En Tryz.prog 146 [.agg ((B4 l).map .p),.ref [.lst (List.map B4 ps)]] (.tup [.agg ((B4 ((C5 l ps).1)).map .p),.p (I ((C5 l ps).2))]):=by
 intro l ps h1 h2 h3;refine DJ Tryz.func146 (CG [0] O O fun b2=>Bp [0] O (Az FH O) fun b3=>CQ [3,1] O (jE l ps h1 h2 h3) ?_);refine A9 [4,0,1] O (Bg [0] [] O O ⟨by rw[iT];try rfl,rfl⟩)
theorem sX:∀(bR:Nat) (ps:List CW) (s:Unit) (t:Tm) (d:Int),(Nd t)→(ps.length<DZ)→(∀p∈ps,N5 p)→BL Tryz.prog 174 [.agg ((BD t).map .p),.p (I d),.ptr bR 0] [.box bR [.fn (.func 146) [] [.ref [.lst (List.map B4 ps)]]]] (Oa (fun(r:(Tm×Bool)×Unit)=> .tup [TV r.1.1,.p (.bool r.1.2)]) (fun e=> .p (.iface 207 (I e))) (fun r H'=>H'=[.box bR [.fn (.func 146) [] [.ref [.lst (List.map B4 ps)]]]]) (Xr ps s t d)):=by
 intro bR ps s t d h1 h2 h3;obtain⟨tk,ti,tn,tl,ts⟩:=t;have hn:=h1;simp only[Nd,DZ] at hn;refine DJ Tryz.func174 (CG [0] O O fun b3=>Bp [0] O (Az Ba O) fun b5=>DT [2,1] O (fW O O O (.inl ⟨O,O,O⟩) (mf tk ti tn tl ts h1) (Ds _) fun vv=>?_));obtain⟨ov,cv⟩:=vv;refine BW (Bp [0] O (Az Ba O) fun b7=>?_);refine B9 [3,0,0,3] O O (List.length_map _) (GG (α:=Nat×List CW×Option Nat×Nat) [1] [2,5,7,15,16] [0,1,2,4] (fun(i,ys,o,cp)=>[(17,.p (I (i:Int)))]) (fun(i,ys,o,cp)=>[(0,.box b7 [.p (I tk),.p (I ti),.p (.str tn),.vs o (List.map B4 (ys++tl.drop i)).length cp,.p (.lst (A6 []))]),(1,.vec o 2 (List.map B4 (ys++tl.drop i)) cp)]) (fun(i,ys,o,cp)=>tl.length - i) (fun(i,ys,o,cp)=>i≤tl.length∧(ys.length=i∧Jb ps tl=Pa ys (Jb ps (tl.drop i)))) ⟨0,[],ov,cv⟩ O O O (⟨by omega,rfl,gG _⟩) ?_);rintro⟨i,ys,o,cp⟩ hC
 try simp only at hC
 obtain⟨hi,hl,hC⟩:=hC;refine BC [1] rfl ?_ ?_<;>intro c
 ·refine D6 [1] tl i O O O (H5 E4) (fun x hx=>?_);refine Bp [1] O (Az FH O) fun b9=>A2 [4,0,1,4,0] O (oM O O (s7 x ps (hn.2.2.1 _ (List.mem_of_getElem? hx)) h2 h3) (.inl O)) (Bp [3] O (Az FH O) fun b10=>?_);refine BC [4,0,1] rfl ?_ ?_<;>intro c1
  ·exact DT [1] O (PO O O O (.inl ⟨O,O,O⟩) (R2 ((C5 x ps).2)) (aw (we O) (HW)) (⟨O,_,List.nil_sublist _,⟨_,qb (hC.trans (uV hx Au)),O⟩⟩))
  refine DT [4,2,0] O (I2 (i:=3) O Aj fun b hb=>?_);subst hb;refine BW (A2 [0] O (CI KW O O Au (by first | omega | (simp;omega))) ?_);exact A2 [0] O (C6 (i:=3) (j:=i) rv O O O (by first | omega | (simp;omega)) O (iL _) (E4 _) (nu _) (ko (f:=B4) (ys++tl.drop i) i ((C5 x ps).1))) (FR [2] 2 ⟨i+1,ys++[(C5 x ps).1],(some b),cp⟩ O (⟨by omega,⟨by simp[hl],hC.trans (uT hx Au)⟩⟩) (e2:=wl (Up (aw (we rfl) (aw (we rfl) (aw (we rfl) (aw (we (WA (f:=B4) (ys++tl.drop i) Ao)) (aw (we rfl) (HW))))))) (wl (Eo (f:=B4) ((ys++tl.drop i).set i ((C5 x ps).1)) (by rw[set_drop hl hx])) (wl (oe rfl) (wl (oe rfl) (Ie))))))
 refine DH [0] O (DT [0] O (BJ (Cf (i:=1) (j:=0) (q:=3) [] O O O (DA Aw)) (BW (A9 [3,0,1,0] O (Bg [1] [2] O O ?_)))));rw[List.drop_eq_nil_of_le Au,List.append_nil];exact⟨⟨⟨.mk tk ti tn ys [],false⟩,()⟩,sJ (tf hC Au),O,O⟩
theorem pZ:∀(bo be:Nat) (co ce:List AV),D7 Tryz.prog 173 [.ptr bo 0,.ptr be 0] (.ret) [.box bo co,.box be ce] (fun H'=>H'=[.box bo co,.box be ce]):=by
 intro bo be co ce;refine GU (ty2:=0) Tryz.func173 O rh (n:=9) O O O O O O (BQ (D5 O (BA O (Fp XD O O O) (Ch O ?_))));refine BX O (fun c=>by cases c) (fun c=>?_);exact Bn ⟨.inl O,O,_,(G7 (is:=[0,1]) O),O⟩
theorem oH:∀(bo be:Nat) (e:Int),D7 Tryz.prog 173 [.ptr bo 0,.ptr be 0] (.pan (.p (.iface 207 (I e)))) [.box bo [.p (I 0),.p (I 0),.p (.str ⟨#[]⟩),.p (.nils),.p (.nils)],.box be [.p (I 0)]] (fun H'=>H'=[.box bo [.p (I 0),.p (I 0),.p (.str ⟨#[]⟩),.p (.lst []),.p (.lst [])],.box be [.p (I e)]]):=by
 intro bo be e;refine GU (ty2:=0) Tryz.func173 O rh (n:=9) O O O O O O (BQ (D5 O (BA O (Fp XD O O O) (BJ (BE (i:=0) O) (Ch O ?_)))));refine BX O (fun c=>?_) (fun c=>by cases c);exact Be (BS tab 2 [] O (BA O (BF O O (Qn _) O) (BS tab 2 [0,0,1,0] O (BJ (BE (i:=0) O) (Ch O ⟨.inl O,O,_,(G7 (is:=[0,1]) O),O⟩)))))
set_option maxHeartbeats 2000000 in
theorem bZ:∀(t:Tm) (ps:List CW),(Nd t)→(Vp t)→(size t<1099511627776)→(ps.length<DZ)→(∀p∈ps,N5 p)→En Tryz.prog 145 [.agg ((BD t).map .p),.fn (.func 146) [] [.ref [.lst (List.map B4 ps)]]] (.tup [.agg ((BD ((BU t ps).1)).map .p),.p (I ((BU t ps).2))]):=by
 intro t ps h1 h2 h3 h4 h5;refine El Tryz.func145 O vV (n:=11) O O (BQ (C8 O (Dl O) fun b2=>C8 O (Dl O) fun b3=>C8 O (Az Ba O) fun b4=>C8 O (Az bA O) fun b5=>Ch O (BQ (BA O (EP O O) (LL O O O O (Ch O (BQ ?_)))))));refine BS tab 3 [3] O ?_;refine GR [2] O O O (.inl ⟨O,O,O⟩) (Px (Xr ps) (fun _ T=>T=[.box b3 [.fn (.func 146) [] [.ref [.lst (List.map B4 ps)]]]]) 174 [.ptr b3 0] (fun s t d T hn hp h0 hb hT=>by subst hT;exact sX b3 ps s t d hn h4 h5) _ t 0 () _ (Nat.le_refl _) h1 h2 Au Ak rfl) ⟨_,_,rfl,rfl,rfl⟩ As (Ds _) (fun _ _ h=>(congrArg List.length h).trans rfl) ?_ ?_
 rotate_left
 ·intro e _ he;refine⟨_,_,_,O,LD (is:=[1,0]) _ As ⟨_,_,O,O,⟨_,_,O,O,O⟩⟩,D7.eq (oH b4 b5 _) ?_⟩;refine⟨_,[],⟨_,_,O,(DS (i:=0) CN O O O),⟨_,_,O,(GD (i:=1) Qz O O),O⟩⟩,(List.nil_sublist _),?_⟩;rw[Za ((QQ t 0).symm.trans he)];exact⟨O,O⟩
 rintro⟨z,_⟩ _ hz rfl;refine BK tab 2 [1,1,0,0] O (CB (⟨_,_,_,O,DQ (is:=[1,0]) As ⟨_,_,O,O,⟨_,_,O,O,O⟩⟩,D7.eq (pZ b4 b5 _ _) ?_⟩));refine⟨_,_,⟨_,_,O,(DS (i:=0) CN O O Am),⟨_,_,O,(GD (i:=1) Qz O O),O⟩⟩,(List.nil_sublist _),?_⟩;rw[bQ ((QQ t 0).symm.trans hz)]
 all_goals exact⟨rfl,rfl⟩
theorem Qx:∀(t:Tm) (ps:List CW),(Nd t)→(Vp t)→(size t<1099511627776)→(ps.length<DZ)→(∀p∈ps,N5 p)→En Tryz.prog 110 [.agg ((BD t).map .p),.p (.lst (List.map B4 ps))] (.tup [.agg ((BD ((BU t ps).1)).map .p),.p (I ((BU t ps).2))]):=by
 intro t ps h1 h2 h3 h4 h5;refine DJ Tryz.func110 (CG [0] O O fun b2=>CG [0] O O fun b3=>Bp [0] O (Az Ba O) fun b4=>DT [1] O (BJ (HO (i:=1) (cs:=[.lst (List.map B4 ps)]) [3] O (DA ⟨O,Aw⟩)) (BW (CQ [2,1] O (bZ t ps h1 h2 h3 h4 h5) ?_))));refine A9 [4,0,1] O (Bg [0] [] O O ⟨O,O⟩)
theorem YQ:∀(t:Tm),(Nd t)→(size t<1000000)→En Tryz.prog 163 [.agg ((BD t).map .p)] (.tup [.p (.lst (A6 ((H4 t).1))),.agg ((BD ((H4 t).2)).map .p)]):=by
 intro t h1 h2;refine DJ Tryz.func163 (CG [0] O O fun b1=>Bp [1] O (Az Ba O) fun b3=>CK [1] O (A5 (DK (t:=4) (sz:=5) O) ?_));refine BP (GG (α:=Tm×List Tm×Option Nat×Nat) [0] [1,3] [0,1,2] (fun(y,l,o,cp)=>[(4,.vs o (A6 l).length cp)]) (fun(y,l,o,cp)=>[(0,.vec o 5 (A6 l) cp),(2,.box b1 ((BD y).map .p))]) (fun(y,l,o,cp)=>size y) (fun(y,l,o,cp)=>Nd y∧l.length+size y≤size t∧(l++(H4 y).1,(H4 y).2)=H4 t) ⟨t,[],none,0⟩ O O O (⟨h1,by simp,by simp⟩) ?_);rintro⟨y,l,o,cp⟩ hC
 try simp only at hC
 have hl0:l.length<1000000:=by have:=hC.2.1;omega
 obtain⟨yk,yi,yn,yl,ys⟩:=y;refine CJ [0] 2 [1,3,4] 13 (((yk:Int)==(6:Int))&&(((ys.length:Nat):Int)==(2:Int))) O O ?_ ?_
 ·refine Bc [4,2] 8 rfl rfl ?_ ?_<;>intro g
  ·exact B9 [2,2] O O (A8 _) (CT [2] O)
  exact CT [5] O
 refine BC [0] rfl ?_ ?_<;>intro c
 ·refine D6 [3,2] ys 0 O O O (IH _) (fun x hx=>?_) (hj:=⟨Au,by first | rfl | omega,(by first | omega | (simp at c;omega))⟩);obtain⟨xk,xi,xn,xl,xs⟩:=x;refine A2 [1] O (BH BT Ba O O O O O) (DT [0] O (ET O O (Bh (i:=0) (rows':=A6 [(.mk xk xi xn xl xs:Tm)]) BT BT Ba O O O O O O (Bd _) AD (Hl l [(.mk xk xi xn xl xs:Tm)])) fun o1 cp1=>?_));refine BW (D6 [3,2] ys 1 O O O (IH _) (fun x1 hx1=>?_) (hj:=⟨Au,by first | rfl | omega,(by first | omega | (simp at c;omega))⟩));exact FR [2,2,1] 0 ⟨x1,l++[(.mk xk xi xn xl xs:Tm)],o1,cp1⟩ O (⟨DU hC.1.2.2.2.2.1 hx1,by have:=CU hx1;have:=hC.2.1;simp only[size] at *;simp only[List.length_append,List.length_cons,List.length_nil];omega,VN c hx hx1 hC.2.2⟩) (hμ:=(by have:=CU hx1;simp only[size];omega))
 refine DH [0] O (E2 [0] [] O (Dj [4,2,1,0] O (CK [0] O ?_)));refine A5 (CM (i:=0) [4,25,2] O (DA ⟨O,O,O,Aw⟩)) ?_;refine BP (A9 [0] O (Bg [0] [] O O ⟨by rw[Ye Au hC.2.2];rfl,rfl⟩))
theorem eR:∀(t:Tm),(Nd t)→(size t<1000000)→En Tryz.prog 182 [.agg ((BD t).map .p)] (.tup [.p (.lst (A6 ((H4 t).1))),.agg ((BD ((H4 t).2)).map .p)]):=by
 intro t h1 h2;refine DJ Tryz.func182 (CG [0] O O fun b1=>Bp [1] O (Az Ba O) fun b3=>CK [1] O (A5 (DK (t:=4) (sz:=5) O) ?_));refine BP (GG (α:=Tm×List Tm×Option Nat×Nat) [0] [1,3] [0,1,2] (fun(y,l,o,cp)=>[(4,.vs o (A6 l).length cp)]) (fun(y,l,o,cp)=>[(0,.vec o 5 (A6 l) cp),(2,.box b1 ((BD y).map .p))]) (fun(y,l,o,cp)=>size y) (fun(y,l,o,cp)=>Nd y∧l.length+size y≤size t∧(l++(H4 y).1,(H4 y).2)=H4 t) ⟨t,[],none,0⟩ O O O (⟨h1,by simp,by simp⟩) ?_);rintro⟨y,l,o,cp⟩ hC
 try simp only at hC
 have hl0:l.length<1000000:=by have:=hC.2.1;omega
 obtain⟨yk,yi,yn,yl,ys⟩:=y;refine CJ [0] 2 [1,3,4] 13 (((yk:Int)==(6:Int))&&(((ys.length:Nat):Int)==(2:Int))) O O ?_ ?_
 ·refine Bc [4,2] 8 rfl rfl ?_ ?_<;>intro g
  ·exact B9 [2,2] O O (A8 _) (CT [2] O)
  exact CT [5] O
 refine BC [0] rfl ?_ ?_<;>intro c
 ·refine D6 [3,2] ys 0 O O O (IH _) (fun x hx=>?_) (hj:=⟨Au,by first | rfl | omega,(by first | omega | (simp at c;omega))⟩);obtain⟨xk,xi,xn,xl,xs⟩:=x;refine A2 [1] O (BH BT Ba O O O O O) (DT [0] O (ET O O (Bh (i:=0) (rows':=A6 [(.mk xk xi xn xl xs:Tm)]) BT BT Ba O O O O O O (Bd _) AD (Hl l [(.mk xk xi xn xl xs:Tm)])) fun o1 cp1=>?_));refine BW (D6 [3,2] ys 1 O O O (IH _) (fun x1 hx1=>?_) (hj:=⟨Au,by first | rfl | omega,(by first | omega | (simp at c;omega))⟩));exact FR [2,2,1] 0 ⟨x1,l++[(.mk xk xi xn xl xs:Tm)],o1,cp1⟩ O (⟨DU hC.1.2.2.2.2.1 hx1,by have:=CU hx1;have:=hC.2.1;simp only[size] at *;simp only[List.length_append,List.length_cons,List.length_nil];omega,VN c hx hx1 hC.2.2⟩) (hμ:=(by have:=CU hx1;simp only[size];omega))
 refine DH [0] O (E2 [0] [] O (Dj [4,2,1,0] O (CK [0] O ?_)));refine A5 (CM (i:=0) [4,25,2] O (DA ⟨O,O,O,Aw⟩)) ?_;refine BP (A9 [0] O (Bg [0] [] O O ⟨by rw[Ye Au hC.2.2];rfl,rfl⟩))
theorem WJ:∀(d:B8) (k:Int),(QP d)→(0≤d.fixed∧d.fixed≤1000000)→(0≤k)→(k<d.ctors.length)→En Tryz.prog 124 [.agg ((B0 d).map .p),.p (I k)] (.p (I (Ed d k))):=by
 intro d k h1 h2 h3 h4;have hcl:=h1.cl;refine DJ Tryz.func124 (CG [0] O O fun b2=>A2 [2] O (Ax (i:=0) GB O O (B5 _)) ?_);obtain⟨x,hx⟩:=A1 (l:=d.ctors) (i:=(k:Int).toNat) Au;have hct:=h1.cs _ (List.mem_of_getElem? hx);have htl:=JB x.type;have hsz:=hct.ty.sz;refine A2 [1] O (A0 Kb O O Au (Gq hx) (Ei _)) (A2 [1] O (Dh CN O (GY _) (A7 _)) (CQ [0] O (YQ x.type hct.ty.nd hct.ty.sz) (Bp [3] O (Az Ba O) fun b6=>B9 [3,0,1] O O (A8 _) (A2 [1] O (Ax (i:=1) Dz O O (Cr _)) (A2 [1] O (F7 O O) (A9 [1] O (Bg [] [] O O ⟨pI (by unfold Ed ax EJ;rw[CO hx]),O⟩)))))))
theorem ZV:∀(d:B8),(QP d)→(0≤d.fixed∧d.fixed≤1000000)→En Tryz.prog 122 [.agg ((B0 d).map .p)] (.p (I (Mj d))):=by
 intro d h1 h2;have htl:=JB d.type;have hsz:=h1.ty.sz;refine DJ Tryz.func122 (CG [0] O O fun b1=>A2 [2] O (Bq (i:=0) CN O O (Fi _) (A7 _)) (CQ [0] O (YQ d.type h1.ty.nd h1.ty.sz) (Bp [3] O (Az Ba O) fun b4=>B9 [3,0,1] O O (A8 _) (A2 [1] O (Ax (i:=1) Dz O O (Cr _)) (A2 [1] O (F7 O O) (A9 [1] O (Bg [] [] O O ⟨pI O,O⟩)))))))
theorem LM:∀(d:B8),(QP d)→(0≤d.fixed∧d.fixed≤1000000)→En Tryz.prog 75 [.agg ((B0 d).map .p)] (.p (I (Bv d))):=by
 intro d h1 h2;have hir:=GL h1 h2;have hcl:=h1.cl;refine DJ Tryz.func75 (CG [0] O O fun b1=>E2 [1] [] O (A3 O (fun _=>BG Kn O O) Aw (CF (j:=0) O O O (fun H i hi=>Ax (i:=i) Dz O hi (Cr _)) AB Aw (Bb [2] O (CF (j:=0) O O O (fun H i hi=>Ax (i:=i) GB O hi (B5 _)) AB Aw (A3 O (fun _=>Cx Kb O (List.length_map _)) Aw (Bb [2,0] O (A3 O (fun _=>BF O O (ZV d h1 h2) O) Aw (Dj [2] O (A9 [0] O (Bg [] [] O O ⟨pI O,O⟩)))))))))))
theorem Y9:∀(d:B8),(QP d)→(0≤d.fixed∧d.fixed≤1000000)→En Tryz.prog 151 [.agg ((B0 d).map .p)] (.p (I (Bv d))):=by
 intro d h1 h2;have hir:=GL h1 h2;have hcl:=h1.cl;have htl:=JB d.type;have hsz:=h1.ty.sz;refine DJ Tryz.func151 (CG [0] O O fun b1=>A2 [2] O (Bq (i:=0) CN O O (Fi _) (A7 _)) (CQ [0] O (eR d.type h1.ty.nd h1.ty.sz) (Bp [3] O (Az Ba O) fun b4=>A2 [3,0,1] O (Ax (i:=1) Dz O O (Cr _)) (A2 [2] O (Ax (i:=1) GB O O (B5 _)) (B9 [0] O O (List.length_map _) (B9 [2] O O (A8 _) (A2 [1] O (Ax (i:=1) Dz O O (Cr _)) (A2 [1] O (F7 O O) (A9 [2] O (Bg [] [] O O ⟨pI O,O⟩))))))))))
theorem Py:∀(l:List Tm),(l.length<DZ)→En Tryz.prog 121 [.p (.lst (A6 l))] (.p (.lst (A6 l.reverse))):=by
 intro l h1;simp only[DZ] at h1;refine DJ Tryz.func121 (B9 [3] O O (A8 _) (CK [2] O (A5 (DK (t:=3) (sz:=5) O) (BP (GG (α:=Nat×Option Nat×Nat) [0] [0] [0] (fun(m,o,cp)=>[(3,.vs o (A6 ((l.drop m).reverse)).length cp),(4,.p (I ((m:Int) - 1)))]) (fun(m,o,cp)=>[(0,.vec o 5 (A6 ((l.drop m).reverse)) cp)]) (fun(m,o,cp)=>m) (fun(m,o,cp)=>m≤l.length) ⟨l.length,none,0⟩ O O O AY ?_ (e0:=⟨we (H9 [] Av),we (pI Au),Aw⟩) (e1:=wl (Gw [] Av) (Ie)))))));rintro⟨m,o,cp⟩ hC
 try simp only at hC
 refine BC [2] rfl ?_ ?_<;>intro c
 ·refine D6 [3] l (((m:Int) - 1:Int).toNat) O O O (IH _) (fun x hx=>?_);obtain⟨xk,xi,xn,xl,xs⟩:=x;exact A2 [1] O (BH BT Ba O O O O O) (DT [0] O (ET O O (Bh (i:=0) (rows':=A6 [(.mk xk xi xn xl xs:Tm)]) BT BT Ba O O O O O O (Bd _) (by simp only[A8,List.length_reverse,List.length_drop,List.length_cons,List.length_nil];omega) (Hl ((l.drop m).reverse) [(.mk xk xi xn xl xs:Tm)])) fun o1 cp1=>BW (FR [4] 0 ⟨m - 1,o1,cp1⟩ O (by first | trivial | omega | (simp only;omega) | (simp;omega)) (e1:=⟨we (H9 ((l.drop m).reverse++[(.mk xk xi xn xl xs:Tm)]) (X8 (by simpa using hx) Au)),we (pI Au),Aw⟩) (e2:=wl (Gw ((l.drop m).reverse++[(.mk xk xi xn xl xs:Tm)]) (X8 (by simpa using hx) Au)) (Ie)))))
 refine DH [0] O (CK [2] O (A5 (CM (i:=0) [3,19,2] O (DA ⟨O,O,O,Aw⟩)) ?_));refine BP (A9 [0] O (Bg [] [] O O ⟨by rw[show m=0 by omega,List.drop_zero];try rfl,rfl⟩))
theorem Tl:∀(ds:List B8) (h:Tm),(IQ ds)→En Tryz.prog 73 [.p (.lst (List.map B0 ds)),.agg ((BD h).map .p)] (.tup [.agg ((GJ ((BY ds h.name).1)).map .p),.p (.bool (U1 ds h))]):=by
 intro ds h h1;obtain⟨hk,hi,hn,hl,hs⟩:=h;refine DJ Tryz.func73 (CG [0] O O fun b3=>Bp [0] O (Az GK O) fun b4=>CQ [4,1] O (Mp ds hn h1) (Bp [3] O (Az GK O) fun b6=>E2 [2,0,1] [] O (Bb [4,0] O (Db 18 O (fun g=>?_) (fun g=>?_)))))
 ·(try simp only[sd,se] at g);refine Bb [2,2] O (Bx O (fun _=>Cx KW O (List.length_map _)) Aw (Bx O (fun _=>BG MS O O) Aw (Mi (i:=0) O O O O O (fun H i hi=>Ax (i:=i) Dz O hi (IX _)) AB Aw ?_)));refine Dj [4,1,1] O (A9 [0] O (Bg [1] [] O O ⟨by rw[jn (k:=hk) (i:=hi) (ks:=hs) (by first | exact g | omega)];rfl,rfl⟩))
 (try simp only[sd,se] at g);refine Dj [9,1,1] O (A9 [0] O (Bg [1] [] O O ⟨by rw[sD (k:=hk) (i:=hi) (ls:=hl) (ks:=hs) (by first | exact g | omega)];rfl,rfl⟩))
theorem _root_.Go.AZ {α:Prop}(h:α:=by simp only[A8,List.length_map];omega):α:=h
theorem Ox:∀(ds:List B8) (t:Tm),(Lb ds)→(okB t=true)→En Tryz.prog 76 [.p (.lst (List.map B0 ds)),.agg ((BD t).map .p)] (.tup [.agg ((B0 ((Bo ds t).1)).map .p),.p (I ((Bo ds t).2.1)),.p (.lst (A6 ((Bo ds t).2.2.1))),.p (.bool ((Bo ds t).2.2.2))]):=by
 intro ds t h1 h2;have ho:=Bu.1 h2;have hosz:=ho.sz;have hoss:=ER t;have hosl:=Qo t;have hosp:=DB h2;refine DJ Tryz.func76 (CG [0] O O fun b3=>Bp [0] O (Az Ih O) fun b4=>CQ [4,1] O (LG _ t (Nat.le_refl _) Ak) (Bp [3] O (Az Ba O) fun b8=>?_));generalize hz:(Ay t).1=z;obtain⟨zk,zi,zn,zl,zs⟩:=z;refine BC [5,0,1,0] rfl ?_ ?_<;>intro c
 ·refine CK [5,1,0] O (A5 (BE (i:=1) O) (A5 (FZ 6) ?_));refine BP (A9 [0] O (Bg [1] [] O O ⟨by rw[Nx (dU hz c)];rfl,rfl⟩))
 refine CQ [3,0] O (Tr ds zn h1.env) (Bp [4] O (Az Ih O) fun b10=>CJ [3,0,1] 5 [4,9,10,11] 46 (((!((Cp ds zn).2.2))||(decide (((Cp ds zn).2.1:Int)<(0:Int))))||(((((Ay t).2).length:Nat):Int) !=((((Cp ds zn).1).fixed:Int)+(Ed (Cp ds zn).1 (Cp ds zn).2.1:Int):Int))) O O ?_ ?_)
 ·refine E2 [0] [] O (Bb [3] O (Db 32 O (fun g=>?_) (fun g=>?_)))
  ·(try simp only[sd,se] at g);exact CY tab 14 [] O (Cu (CT [0] O))
  (try simp only[sd,se] at g);have hf1:(Cp ds zn).2.2=true:=by simpa using g
  refine Bb [4] O (Db 36 O (fun g1=>?_) (fun g1=>?_))
  ·(try simp only[sd,se] at g1);exact CY tab 10 [] O (Cu (CT [0] O))
  (try simp only[sd,se] at g1);have hf2:¬(Cp ds zn).2.1<0:=by simpa using g1
  have hfd:=cW h1 hf1 hf2;have hfr:=MB hfd.1 hfd.2.2.1 hfd.2.2.2 hfd.2.1.1;have hfx:=hfd.2.1;exact Bx O (fun _=>Bj O) Aw (Bx O (fun _=>Cx BT O (A8 _)) Aw (Bb [1] O (Mi (i:=0) O O O O O (fun H i hi=>Ax (i:=i) Dz O hi (Cr _)) AB Aw (Bb [2,0] O (Bx O (fun _=>BF O O (WJ ((Cp ds zn).1) ((Cp ds zn).2.1) hfd.1 hfd.2.1 hfd.2.2.1 hfd.2.2.2) O) Aw (CY tab 3 [] O (Cu (CT [0] O))))))))
 refine BC [0] rfl ?_ ?_<;>intro c1
 ·have hcc:=or_assoc.1 c1;refine CK [5,2,0] O (A5 (BE (i:=2) O) (A5 (FZ 6) ?_));refine BP (A9 [0] O (Bg [2] [] O O ⟨by rw[Nx (ni hz (by simpa using c) hcc)];rfl,rfl⟩))
 have hcc:(Cp ds zn).2.2=true∧¬(Cp ds zn).2.1<0∧((Ay t).2.length:Int)=(Cp ds zn).1.fixed+Ed (Cp ds zn).1 (Cp ds zn).2.1:=⟨c1.1.1,by omega,c1.2⟩;have hfd:=cW h1 hcc.1 hcc.2.1;have hfr:=MB hfd.1 hfd.2.2.1 hfd.2.2.2 hfd.2.1.1;have hfx:=hfd.2.1;have hl3:=hcc.2.2;refine E2 [0] [] O (Bb [4,0] O (CF (j:=0) O O O (fun H i hi=>Ax (i:=i) Dz O hi (Cr _)) AB Aw (A3 O (fun _=>Cn (lo:=(((Cp ds zn).1).fixed:Int).toNat) BT O (CX (Bd _)) ⟨_,pI Au⟩ O AZ (Nat.le_refl _) (ML ((Ay t).2) ((((Cp ds zn).1).fixed:Int).toNat))) Aw ?_)));refine Dj [4,2,1] O (A9 [0] O (Bg [2] [] O O ⟨by rw[Ry (lK hz (by simpa using c) hcc.1 hcc.2.1 hcc.2.2)];try rfl,rfl⟩))
theorem uU:∀(l b1 b2:Nat) (d:B8) (at_:Int) (nm:ByteArray) (TA:IK→List A4) (T0:List A4),(d.kind=0∨QP d)→(∀s e,(s,e)∈F9 d at_→NR Tryz.prog l [.p (.str s),.agg ((GJ e).map .p)] T0 (Y4 (.p (.bool (!decide (s=nm)))) (fun T=>T=if s=nm then TA e else T0)))→BL Tryz.prog 172 [.fn (.yield l) [] [],.ptr b2 0,.ptr b1 0] (.box b1 ((B0 d).map .p):: .box b2 [.p (I at_)]::T0) (Y4 (.tup []) (fun H=>∃T,T=Jc TA T0 nm (F9 d at_)∧H= .box b1 ((B0 d).map .p):: .box b2 [.p (I at_)]::T)):=by
 intro l b1 b2 d at_ nm TA T0 h1 h2;refine Cb Tryz.func172 O wE (n:=98) O O (BQ (BS tab 2 [1] O (BA O (Ax (i:=0) Dz O O (Cv _)) (BA O (BG Kn O O) (BA O (Bq (i:=0) CN O O (Fi _) (A7 _)) (BA O (EV MS GK (nC O O O)) (C8 O (Az GK O) fun b4=>BK tab 1 [0,1] O (BQ (BA O (BG Kn O O) (BA O (Ax (i:=1) Dz O O (EN _)) ?_))))))))));refine Ch O (B3 (BR (BZ tab 2 [] O (Gr [0,1,2,4,16] 17 (fun y=>y= .p (.bool (decide (d.kind=0∨d.kind=1∨d.kind=2)))) ?_ ?_))))
 ·refine BX O (fun c=>?_) (fun c=>?_)
  ·(try simp only[sd,se] at c);exact Bn (⟨O,O,(List.Sublist.refl _),(by refine pB (Bool.eq_iff_iff.2 ?_);simp only[beq_iff_eq,decide_eq_true_eq];omega),⟨O,O,O,O,O,Aw⟩⟩)
  (try simp only[sd,se] at c);refine BZ tab 2 [] O (BX O (fun c1=>?_) (fun c1=>?_))
  ·(try simp only[sd,se] at c1);exact Bn (⟨O,O,(List.Sublist.refl _),(by refine pB (Bool.eq_iff_iff.2 ?_);simp only[beq_iff_eq,decide_eq_true_eq];omega),⟨O,O,O,O,O,Aw⟩⟩)
  (try simp only[sd,se] at c1);exact Be (BK tab 2 [] O (⟨O,O,(List.Sublist.refl _),(by refine pB (Bool.eq_iff_iff.2 ?_);simp only[beq_iff_eq,decide_eq_true_eq];omega),⟨O,O,O,O,O,Aw⟩⟩))
 rintro _ rfl;refine BX O (fun c=>?_) (fun c=>?_)
 ·(try simp only[sd,se] at c);have hx0:([0,1,2]:List Int)[d.kind.toNat]?=some d.kind:=by
   have:d.kind=0∨d.kind=1∨d.kind=2:=by simpa using c
   rcases this with e | e | e<;>rw[e]<;>rfl
  have hk0:0≤d.kind∧d.kind<3:=by
   have:d.kind=0∨d.kind=1∨d.kind=2:=by simpa using c
   omega
  refine BQ (BA O (BH HE jR O O O O O) (BA O (BG Kn O O) (BA O (Ax (i:=1) Dz O O (EN _)) (BA O (A0 HE O O Au (LR hx0) (O)) (BS tab 2 [] O (BA O (EI (i:=0) (ds:=(GJ (IK.mk d.kind at_ 0 d.params d.type)).map .p) Dz O O O O O O O) (Ch O (Be (BS tab 2 [] O (BA O (Ax (i:=1) OB O O (Da _)) (BA O (Cy (i:=0) db O O (by simp[PQ])) ?_)))))))))));refine Ju [_,_,_] O O O O (h2 _ _ (mK (by simpa using c))) O ?_ (fun _ _ h=>h.elim);rintro _ T ⟨rfl,hT⟩;refine Ch O ⟨O,_,_,O,(Es [1,2] [_,_,_] O),?_⟩;exact⟨O,_,(hT.trans (bu (by simpa using c)).symm),O⟩
 (try simp only[sd,se] at c);have hD:QP d:=by
  rcases h1 with h | h
  ·exact absurd (show d.kind=0∨d.kind=1∨d.kind=2 from .inl h) (by simpa using c)
  exact h
 have hcl:=hD.cl;have hfl:=hD.fl;refine BZ tab 2 [] O (BX O (fun c1=>?_) (fun c1=>?_))
 ·(try simp only[sd,se] at c1);refine BQ (BA O (BG MS O O) (BA O (EI (i:=0) (ds:=(GJ (IK.mk 3 at_ 0 d.params d.type)).map .p) Dz O O O O O O O) (Ch O (BR (BQ (BS tab 2 [] O (BA O (Ax (i:=1) OB O O (Da _)) (BA O (Cy (i:=0) db O O (by simp[PQ])) (Ju [_,_,_] O O O O (h2 _ _ (pS (by simpa using c1))) O ?_ (fun _ _ h=>h.elim))))))))));rintro _ T ⟨rfl,hT⟩;refine BK tab 1 [] O (BX O (fun c2=>?_) (fun c2=>?_))
  ·(try simp only[sd,se] at c2);refine CB ⟨O,_,_,O,(Es [1,2] [_,_,_] O),?_⟩;exact⟨O,_,(hT.trans ((if_pos (by simpa using c2)).trans (gp (by simpa using c1) (by simpa using c2)).symm)),O⟩
  (try simp only[sd,se] at c2);have qc2:¬(d.name=nm):=by simpa using c2
  rw[if_neg qc2] at hT;have hT:=hT.symm;subst hT;refine Bn (BR (BQ (BA O (BG Kn O O) (BA O (Ax (i:=1) GB O O (B5 _)) (BA O (Cx Kb O (List.length_map _)) (BK tab 1 [] O (B3 ?_)))))));refine Ep (α:=Nat) (fun i=>⟨98,mk [(0,.fn (.yield l) [] []),(1,.ptr b2 0),(2,.ptr b1 0),(42,.p (.lst (List.map J9 d.ctors))),(43,.p (I (d.ctors.length:Nat))),(44,.p (I (i:Int)))],(.box b1 ((B0 d).map .p):: .box b2 [.p (I at_)]::T0),[]⟩) (fun i=>d.ctors.length - i) (fun i=>i≤d.ctors.length∧(∀j,j<i→∀y,d.ctors[j]?=some y→y.name≠nm)) 0 (⟨by omega,fun j h=>by omega⟩) ?_ ?_
  ·exact Ea ⟨we O,we O,we O,we O,we O,we O,Aw⟩ (Uk [1,2] [_,_,_] (l':=[_,_]) O (wl (oe O) (wl (oe O) (Ie))))
  rintro i hC
  try simp only at hC
  obtain⟨hi,hC⟩:=hC;refine BZ tab 1 [] O (BR (BX O (fun c3=>?_) (fun c3=>?_)))
  ·(try simp only[sd,se] at c3);refine Bn (BR (B3 (BQ (D5 O ?_))));obtain⟨x,hx⟩:=A1 (l:=d.ctors) (i:=i) Au;refine BA O (A0 Kb O O Au (Gq hx) (Ei _)) (BA O (Bk vd O (Ei _)) (C8 O (Az um O) fun b6=>BK tab 2 [0,1] O (BQ (BS tab 2 [] O (BA O (Ax (i:=0) OB O O (GZ _)) (BS tab 3 [2] O (BA O (Ax (i:=1) Dz O O (Cv _)) (BA O (BG US O O) (BA O (Bq (i:=0) CN O O (GY _) (A7 _)) (BA O (EV MS GK (Pz O O O O O)) ?_))))))))));refine Ju [_,_,_] O O O O (h2 _ _ (nO (by simpa using c1) hx)) O ?_ (fun _ _ h=>h.elim);rintro _ T1 ⟨rfl,hT1⟩;refine BK tab 1 [] O (BX O (fun c4=>?_) (fun c4=>?_))
   ·(try simp only[sd,se] at c4);refine CB ⟨O,_,_,O,(Es [1,2] [_,_,_] O),?_⟩;exact⟨O,_,(hT1.trans ((if_pos (by simpa using c4)).trans (cQ (by simpa using c1) qc2 hx (by simpa using c4) hC).symm)),O⟩
   (try simp only[sd,se] at c4);have qc4:¬(x.name=nm):=by simpa using c4
   rw[if_neg qc4] at hT1;have hT1:=hT1.symm;subst hT1;refine Bn (Be (BK tab 2 [] O (⟨(i+1),Ae,⟨by omega,Cg (p:=fun _ (y:LF)=>y.name≠nm) hC hx qc4⟩,Ea ⟨we rfl,we rfl,we rfl,we rfl,we rfl,we rfl,trivial⟩ (Uk [1,2] [_,_,_] (l':=[_,_]) rfl (wl (oe rfl) (wl (oe rfl) (Ie))))⟩)))
  (try simp only[sd,se] at c3);refine EM (Be (BS tab 2 [] O (BA O (Ax (i:=0) OB O O (Da _)) (BA O (SR O O (by have:(⟨#[46,114,101,99]⟩:ByteArray).size=4:=rfl;have:=hD.nm;omega)) (BS tab 3 [1] O (BA O (Ax (i:=0) Dz O O (Du _)) (BS tab 2 [] O (BA O (Bq (i:=0) CN O O (Fc _) (A7 _)) (BA O (EV MS GK (eg O O O O)) (Ju [_,_] O O O O (h2 _ _ (pQ (by simpa using c1))) O ?_ (fun _ _ h=>h.elim)))))))))));rintro _ T1 ⟨rfl,hT1⟩;refine Ch O ⟨O,_,_,O,(Es [0,1] [_,_] O),?_⟩;exact⟨O,_,(hT1.trans (gV (by simpa using c1) qc2 fun j hj=>hC j Au).symm),O⟩
 (try simp only[sd,se] at c1);refine BZ tab 2 [] O (BX O (fun c2=>?_) (fun c2=>?_))
 ·(try simp only[sd,se] at c2);refine BQ (BA O (BG Kn O O) (BA O (Ax (i:=1) F4 O O (CD _)) (BA O (Cx J4 O (List.length_map _)) (BK tab 1 [] O (B3 ?_)))));refine Ep (α:=Nat) (fun i=>⟨98,mk [(0,.fn (.yield l) [] []),(1,.ptr b2 0),(2,.ptr b1 0),(78,.p (.lst (List.map Iy d.funs))),(79,.p (I (d.funs.length:Nat))),(80,.p (I (i:Int)))],(.box b1 ((B0 d).map .p):: .box b2 [.p (I at_)]::T0),[]⟩) (fun i=>d.funs.length - i) (fun i=>i≤d.funs.length∧(∀j,j<i→∀y,d.funs[j]?=some y→y.name≠nm)) 0 (⟨by omega,fun j h=>by omega⟩) ?_ ?_
  ·exact Ea ⟨we O,we O,we O,we O,we O,we O,Aw⟩ (Uk [1,2] [_,_,_] (l':=[_,_]) O (wl (oe O) (wl (oe O) (Ie))))
  rintro i hC
  try simp only at hC
  obtain⟨hi,hC⟩:=hC;refine BZ tab 1 [] O (BR (BX O (fun c3=>?_) (fun c3=>?_)))
  ·(try simp only[sd,se] at c3);refine Bn (BR (B3 (BQ (D5 O ?_))));obtain⟨x,hx⟩:=A1 (l:=d.funs) (i:=i) Au;refine BA O (A0 J4 O O Au (Fh hx) (Ee _)) (BA O (Bk vH O (Ee _)) (C8 O (Az kK O) fun b8=>BK tab 2 [0,1] O (BQ (BS tab 2 [] O (BA O (Ax (i:=0) OB O O (Jk _)) (BS tab 3 [2] O (BA O (Ax (i:=1) Dz O O (Cv _)) (BA O (BG Pd O O) (BA O (Bq (i:=0) CN O O (Jg _) (A7 _)) (BA O (EV MS GK (Pz O O O O O)) ?_))))))))));refine Ju [_,_,_] rfl rfl rfl rfl (h2 _ _ (qj (by simpa using c2) hx)) rfl ?_ (fun _ _ h=>h.elim);rintro _ T ⟨rfl,hT⟩;refine BK tab 1 [] O (BX O (fun c4=>?_) (fun c4=>?_))
   ·(try simp only[sd,se] at c4);refine CB ⟨O,_,_,O,(Es [1,2] [_,_,_] O),?_⟩;exact⟨O,_,(hT.trans ((if_pos (by simpa using c4)).trans (iV (by simpa using c2) hx (by simpa using c4) hC).symm)),O⟩
   (try simp only[sd,se] at c4);have qc4:¬(x.name=nm):=by simpa using c4
   rw[if_neg qc4] at hT;have hT:=hT.symm;subst hT;refine Bn (Be (BK tab 2 [] O (⟨(i+1),Ae,⟨by omega,Cg (p:=fun _ (y:I9)=>y.name≠nm) hC hx qc4⟩,Ea ⟨we rfl,we rfl,we rfl,we rfl,we rfl,we rfl,trivial⟩ (Uk [1,2] [_,_,_] (l':=[_,_]) rfl (wl (oe rfl) (wl (oe rfl) (Ie))))⟩)))
  (try simp only[sd,se] at c3);refine EM ⟨O,_,_,O,(Es [0,1] [_,_] O),?_⟩;exact⟨O,_,(a8 (by simpa using c2) fun j hj=>hC j Au).symm,O⟩
 (try simp only[sd,se] at c2);refine Bn ⟨O,_,_,O,(Es [1,2] [_,_,_] O),?_⟩;exact⟨O,_,(cf (by simpa using c) (by simpa using c1) (by simpa using c2)).symm,O⟩
theorem sI:∀(d:B8) (at_:Int),BL Tryz.prog 144 [.agg ((B0 d).map .p),.p (I at_)] [] (fun r H'=>∃b1 b2,r= .val (.fn (.func 172) [] [.ptr b2 0,.ptr b1 0])∧H'=[.box b2 [.p (I at_)],.box b1 ((B0 d).map .p)]):=by
 intro d at_;refine DJ Tryz.func144 (CG [0] O O fun b2=>CG [0] O O fun b3=>A9 [3] O (Bg [] [0,1] O O ⟨_,_,O,O⟩))
theorem fc:∀(ds:List B8) (nm:ByteArray),(ds.length<DZ)→(x0 ds)→En Tryz.prog 109 [.p (.lst (List.map B0 ds)),.p (.str nm)] (.tup [.agg ((GJ ((BY ds nm).1)).map .p),.p (I ((BY ds nm).2))]):=by
 intro ds nm h1 h2;simp only[DZ] at h1;refine El Tryz.func109 O vn (n:=28) O O (BQ (C8 O (Dl O) fun b3=>C8 O (Az GK O) fun b4=>C8 O (Az bA O) fun b5=>Ch O (BR (BQ (D5 O (BA O (Cx QV O (List.length_map _)) (BK tab 1 [] O (B3 ?_))))))));refine Ep (α:=Nat×List Nat) (fun(i,U)=>⟨28,mk [(3,.ptr b3 0),(4,.ptr b4 0),(5,.ptr b5 0),(10,.p (.lst (List.map B0 ds))),(11,.p (I (ds.length:Nat))),(12,.p (I (i:Int)))],(.box b5 [.p (I 0)]:: .box b4 [.p (I 0),.p (I 0),.p (I 0),.p (I 0),.p (I 0),.p (I 0),.p (.str ⟨#[]⟩),.p (.nils),.p (.nils)]:: .box b3 [.p (.str nm)]::(U.map A4.dfr)),(U.map D1.mark)⟩) (fun(i,U)=>ds.length - i) (fun(i,U)=>i≤ds.length∧(∀j,j<i→∀y,ds[j]?=some y→C2 nm (F9 y j)=none)) ⟨0,[]⟩ (⟨by omega,fun j h=>by omega⟩) ?_ ?_
 ·exact Ea ⟨we O,we O,we O,we O,we O,we O,Aw⟩ (Uk [0,1,2] [_,_,_] (l':=[_,_,_]) O (wl (oe O) (wl (oe O) (wl (oe O) (Ie)))))
 rintro⟨i,U⟩ hC
 try simp only at hC
 obtain⟨hi,hC⟩:=hC;refine BZ tab 1 [] O (BR (BX O (fun c=>?_) (fun c=>?_)))
 ·(try simp only[sd,se] at c);refine Bn (BR (B3 (BQ (D5 O ?_))));obtain⟨x,hx⟩:=A1 (l:=ds) (i:=i) Au;have hx0:=h2 _ (List.mem_of_getElem? hx);refine BA O (A0 QV O O Au (HI hx) (DF _)) (BA O (Bk TF O (DF _)) (C8 O (Az Ih O) fun b7=>BK tab 2 [0,1] O (BQ (BS tab 2 [0] O ?_))));refine Ji (Hs:=[]) O O O (.inl ⟨O,O,O⟩) (List.Perm.refl _) ((sI x ((i:Int))).args (aw (we O) (aw (we O) HW))) (.inl O) ?_ (fun _ _ ⟨_,_,h,_⟩=>by cases h);rintro _ _ ⟨bd,ba,h,rfl⟩;cases h;refine Ch O (B3 (TE (.inr O) fun dd l L hL=>⟨_,_,U7 (is:=[3,2,0,4,5,6,7]) (base:=[_,_,_,_,_,_,_,_]) (rest:=[.dfr dd]) As ⟨_,_,O,O,⟨_,_,O,O,⟨_,_,O,O,⟨_,_,O,O,⟨_,_,O,O,⟨_,_,O,O,⟨_,_,O,O,O⟩⟩⟩⟩⟩⟩⟩ O,?_⟩));have hy:∀(sn:ByteArray) (en:IK),(sn,en)∈F9 x ((i:Int))→NR Tryz.prog l [.p (.str sn),.agg ((GJ en).map .p)] [.loop l L,.box b7 ((B0 x).map .p),.box b5 [.p (I 0)],.box b4 [.p (I 0),.p (I 0),.p (I 0),.p (I 0),.p (I 0),.p (I 0),.p (.str ⟨#[]⟩),.p (.nils),.p (.nils)],.box b3 [.p (.str nm)]] (Y4 (.p (.bool (!decide (sn=nm)))) (fun T:List A4=>T=if sn=nm then [.loop l { L with state:= .done,pending:=some .ret },.box b7 ((B0 x).map .p),.box b5 [.p (I 0)],.box b4 ((GJ en).map .p),.box b3 [.p (.str nm)]] else [.loop l L,.box b7 ((B0 x).map .p),.box b5 [.p (I 0)],.box b4 [.p (I 0),.p (I 0),.p (I 0),.p (I 0),.p (I 0),.p (I 0),.p (.str ⟨#[]⟩),.p (.nils),.p (.nils)],.box b3 [.p (.str nm)]])):=by
   intro sn en hm;obtain⟨LB,hLB⟩:∃x,x=A4.loop l { L with state:= .busy }:=⟨_,rfl⟩;subst hL;refine Vk (i:=0) O O O O (BZ tab 1 [] O (Be (C8 O (Az GK O) fun b9=>BK tab 1 [0,1] O ⟨O,1,O,?_⟩)));rw[←hLB];refine B3 (BQ (BS tab 2 [5] O (BA O (Gt O O) (Ch O (BX O (fun c1=>?_) (fun c1=>?_))))))
   ·(try simp only[sd,se] at c1);refine BZ tab 3 [0,4,1,3,0] O (CB ?_);subst hLB;refine⟨1,_,O,G7 (is:=[1,2,3,4,5]) O,?_⟩;have hcc:sn=nm:=Gi (by simpa using c1);exact⟨by simp[hcc],(if_pos hcc).symm⟩
   (try simp only[sd,se] at c1);refine Bn ?_;subst hLB;refine⟨1,_,O,G7 (is:=[1,2,3,4,5]) O,?_⟩;have hcc:¬(sn=nm):=fun h=>by simp[h] at c1
   exact⟨by simp[hcc],(if_neg hcc).symm⟩
  refine(uU l bd ba x ((i:Int)) nm (fun en=>[.loop l { L with state:= .done,pending:=some .ret },.box b7 ((B0 x).map .p),.box b5 [.p (I 0)],.box b4 ((GJ en).map .p),.box b3 [.p (.str nm)]]) _ (hx0) hy).mono ?_;rintro(v | v) H' hR
  rotate_left
  ·exact hR.elim
  obtain⟨rfl,_,hT,rfl⟩:=hR;subst hL;unfold Jc at hT;cases hF:C2 nm (F9 x ((i:Int))) with
  | some en =>
   rw[hF] at hT;simp only at hT;subst hT;refine bq (i:=2) (.box bd ((B0 x).map .p):: .box ba [.p (I (i:Int))]:: .box b7 ((B0 x).map .p):: .box b5 [.p (I 0)]:: .box b4 ((GJ en).map .p):: .box b3 [.p (.str nm)]::(.dfr dd::U.map A4.dfr)) O Av O O (CB (RE (dd::U) (Hs:=[_,_,_,_,_,_]) (⟨_,_,⟨_,_,O,(DS (i:=4) db O O (by simp[PQ])),⟨_,_,O,(GD (i:=3) Qz O O),O⟩⟩,(List.nil_sublist _),?_⟩)))
   all_goals exact⟨by show (.tup [.agg ((GJ en).map .p),.p (I 0)]:AV)=_;rw[lQ hx hC hF],rfl⟩
  | none =>
   rw[hF] at hT;simp only at hT;subst hT;refine Yi (i:=2) (.box bd ((B0 x).map .p):: .box ba [.p (I (i:Int))]:: .box b7 ((B0 x).map .p):: .box b5 [.p (I 0)]:: .box b4 [.p (I 0),.p (I 0),.p (I 0),.p (I 0),.p (I 0),.p (I 0),.p (.str ⟨#[]⟩),.p (.nils),.p (.nils)]:: .box b3 [.p (.str nm)]::(.dfr dd::U.map A4.dfr)) O Av O O (Be (BK tab 2 [] O (⟨⟨i+1,dd::U⟩,Ae,⟨by omega,Cg (p:=fun j (y:B8)=>C2 nm (F9 y j)=none) hC hx hF⟩,Ea ⟨we rfl,we rfl,we rfl,we rfl,we rfl,we rfl,trivial⟩ (Uk [3,4,5] [_,_,_,_,_,_] (l':=[_,_,_]) rfl (wl (oe rfl) (wl (oe rfl) (wl (oe rfl) (Ie)))))⟩)))
 (try simp only[sd,se] at c);refine EM (BZ tab 3 [1,0,0,0] O (A5 (BE (i:=1) O) (CB (RE U (Hs:=[_,_,_]) (⟨_,_,⟨_,_,O,(DS (i:=1) db O O O),⟨_,_,O,(GD (i:=0) Qz O O),O⟩⟩,(List.nil_sublist _),?_⟩)))))
 all_goals exact⟨by show (.tup [.agg [.p (I 0),.p (I 0),.p (I 0),.p (I 0),.p (I 0),.p (I 0),.p (.str ⟨#[]⟩),.p (.lst []),.p (.lst [])],.p (I 9)]:AV)=_;rw[lU fun j hj=>hC j Au];rfl,rfl⟩
theorem gS:∀(ds:List B8) (nm:ByteArray),(IQ ds)→En Tryz.prog 183 [.p (.lst (List.map B0 ds)),.p (.str nm)] (.tup [.agg ((B0 ((Cp ds nm).1)).map .p),.p (I ((Cp ds nm).2.1)),.p (.bool ((Cp ds nm).2.2))]):=by
 intro ds nm h1;have hl:=h1.len;refine DJ Tryz.func183 (Bp [0] O (Az Ih O) fun b4=>CQ [4] O (fc ds nm Ak (fun d hd=> .inr (h1.all d hd))) (Bp [3] O (Az GK O) fun b7=>?_));refine BC [4,0,1] rfl ?_ ?_<;>intro c
 ·refine CK [4,1,0] O (A5 (BE (i:=1) O) ?_);refine BP (A9 [0] O (Bg [1] [] O O ⟨by rw[dX Au];rfl,rfl⟩))
 obtain⟨fi,fd,hfi,hfo⟩:=Pc (ds:=ds) (nm:=nm) Au;have hdl:=hfo.decl;have hfl:=(List.getElem?_eq_some_iff.1 hfi).1;refine A2 [1] O (Ax (i:=0) Dz O O (Fb _)) ?_;refine BC [2] rfl ?_ ?_<;>intro c1
 ·refine A2 [2] O (Ax (i:=0) Dz O O (EO _)) (D6 [0] ds ((((BY ds nm).1).decl:Int).toNat) O O O (H5 DF) (fun x hx=>?_));refine A9 [4,1,1] O (Bg [1] [] O O ⟨by rw[rJ Au Au hx];try rfl,rfl⟩)
 refine BC [2] rfl ?_ ?_<;>intro c2
 ·refine E2 [0] [] O (Bb [2] O (CF (j:=0) O O O (fun H i hi=>Ax (i:=i) Dz O hi (EO _)) AB Aw ?_));obtain⟨x,hx⟩:=A1 (l:=ds) (i:=(((BY ds nm).1).decl:Int).toNat) Au;refine A3 O (fun _=>A0 QV O O Au (HI hx) (DF _)) Aw (Bb [2] O (CF (j:=0) O O O (fun H i hi=>Ax (i:=i) Dz O hi (Gb _)) AB Aw ?_));refine Dj [3,1,1] O (A9 [0] O (Bg [1] [] O O ⟨by rw[rR Au Au hx];try rfl,rfl⟩))
 refine BC [2] rfl ?_ ?_<;>intro c3
 ·refine A2 [2] O (Ax (i:=0) Dz O O (EO _)) (D6 [0] ds ((((BY ds nm).1).decl:Int).toNat) O O O (H5 DF) (fun x hx=>?_));refine A9 [4,1,1] O (Bg [1] [] O O ⟨by rw[lA Au Au hx];try rfl,rfl⟩)
 refine CK [4,1,0] O (A5 (BE (i:=1) O) ?_);refine BP (A9 [0] O (Bg [1] [] O O ⟨by rw[ma Au Au Au];rfl,rfl⟩))
theorem fy:∀(m:Nat) (ds:List B8) (n:Int) (h:Tm),(IQ ds)→BL Tryz.prog 149 [.ptr m 0,.agg ((BD h).map .p)] [.box m [.p (.lst (List.map B0 ds)),.p (I n)]] (Gh (.tup [.agg ((GJ ((BY ds h.name).1)).map .p),.p (.bool (U1 ds h))]) [.box m [.p (.lst (List.map B0 ds)),.p (I n)]]):=by
 intro m ds n h h1;have hel:=h1.len;obtain⟨hk,hi,hn,hl,hs⟩:=h;refine DJ Tryz.func149 (CG [0] O O fun b3=>Bp [0] O (Az GK O) fun b4=>E2 [1] [10] O (Bb [6,2,1] O (A3 rfl (fun _=>BF rfl rfl (fc ds hn Ak (fun d hd=> .inr (h1.all d hd))) rfl) trivial (Bb [3] O (Gf [] O O (Az GK O) Ap fun b6=>⟨AB,Aw,?_⟩)))));refine Dj [2,0,1] O (E2 [0] [] O ?_);refine Bb [4,0] O (Db 21 O (fun g=>?_) (fun g=>?_))
 ·(try simp only[sd,se] at g);refine Bb [2,2] O (Bx O (fun _=>Cx KW O (List.length_map _)) Aw (Bx O (fun _=>BG MS O O) Aw (Mi (i:=0) O O O O O (fun H i hi=>Ax (i:=i) Dz O hi (IX _)) AB Aw ?_)));refine Dj [4,1,1] O (A9 [0] O (Bg [1] [3] O O ⟨by rw[jn (k:=hk) (i:=hi) (ks:=hs) (by first | exact g | omega)];rfl,rfl⟩))
 (try simp only[sd,se] at g);refine Dj [9,1,1] O (A9 [0] O (Bg [1] [3] O O ⟨by rw[sD (k:=hk) (i:=hi) (ls:=hl) (ks:=hs) (by first | exact g | omega)];rfl,rfl⟩))
theorem W0:∀(m:Nat) (ds:List B8) (n:Int) (t:Tm),(Lb ds)→(okB t=true)→BL Tryz.prog 152 [.ptr m 0,.agg ((BD t).map .p)] [.box m [.p (.lst (List.map B0 ds)),.p (I n)]] (Gh (.tup [.agg ((B0 ((Bo ds t).1)).map .p),.p (I ((Bo ds t).2.1)),.p (.lst (A6 ((Bo ds t).2.2.1))),.p (.bool ((Bo ds t).2.2.2))]) [.box m [.p (.lst (List.map B0 ds)),.p (I n)]]):=by
 intro m ds n t h1 h2;have ho:=Bu.1 h2;have hosz:=ho.sz;have hoss:=ER t;have hosl:=Qo t;have hosp:=DB h2;refine DJ Tryz.func152 (CG [0] O O fun b3=>Bp [0] O (Az Ih O) fun b4=>CQ [4,1] O (O4 t ho.nd Ak) (Bp [3] O (Az Ba O) fun b8=>?_));generalize hz:(Ay t).1=z;obtain⟨zk,zi,zn,zl,zs⟩:=z;refine BC [5,0,1,0] rfl ?_ ?_<;>intro c
 ·refine CK [5,1,0] O (A5 (BE (i:=1) O) (A5 (FZ 6) ?_));refine BP (A9 [0] O (Bg [1] [3] O O ⟨by rw[Nx (dU hz c)];rfl,rfl⟩))
 refine E2 [0] [11] O (Bb [6,3,0] O (A3 O (fun _=>BF O O (gS ds zn h1.env) O) Aw (Bb [4] O (Gf [] O O (Az Ih O) Ap fun b10=>⟨AB,Aw,?_⟩))));refine Dj [3,0,1] O (CJ [0] 5 [4,9,10,11] 40 ((!((Cp ds zn).2.2))||(decide (((Cp ds zn).2.1:Int)<(0:Int)))) O O ?_ ?_)
 ·refine Bc [3] 37 rfl rfl ?_ ?_<;>intro g
  ·exact CT [3] O
  exact CT [3] O
 refine BC [0] rfl ?_ ?_<;>intro c1
 ·have hcc:=c1;refine CK [5,2,0] O (A5 (BE (i:=2) O) (A5 (FZ 6) ?_));refine BP (A9 [0] O (Bg [2] [4] O O ⟨by rw[Nx (fQ hz (by simpa using c) hcc)];rfl,rfl⟩))
 have hcc:(Cp ds zn).2.2=true∧¬(Cp ds zn).2.1<0:=⟨c1.1,by omega⟩;have hfd:=cW h1 hcc.1 hcc.2;have hfr:=MB hfd.1 hfd.2.2.1 hfd.2.2.2 hfd.2.1.1;have hfx:=hfd.2.1;refine A2 [1] O (Ax (i:=0) GB O O (B5 _)) ?_;obtain⟨x,hx⟩:=A1 (l:=((Cp ds zn).1).ctors) (i:=((Cp ds zn).2.1:Int).toNat) Au;have hal:=JB x.type;have hxs:=(hfd.1.cs _ (List.mem_of_getElem? hx)).ty;refine A2 [1] O (A0 Kb O O Au (Gq hx) (Ei _)) (A2 [1] O (Dh CN O (GY _) (A7 _)) (CQ [0] O (eR x.type hxs.nd hxs.sz) (Bp [3] O (Az Ba O) fun b14=>B9 [3,0,1] O O (A8 _) (A2 [1] O (Ax (i:=1) Dz O O (Cr _)) (B9 [1] O O (A8 _) (A2 [0] O (F7 O O) ?_))))));refine BC [1] rfl ?_ ?_<;>intro c2
 ·refine CK [5,3,0] O (A5 (BE (i:=3) O) (A5 (FZ 6) ?_));refine BP (A9 [0] O (Bg [3] [5] O O ⟨by rw[Nx (eY hz (by simpa using c) hcc.1 hcc.2 (by rw[TS hx hfx.1];exact c2))];rfl,rfl⟩))
 have hl3:=c2;refine E2 [0] [] O (Bb [4,1] O (CF (j:=1) O O O (fun H i hi=>Ax (i:=i) Dz O hi (Cr _)) AB Aw (A3 O (fun _=>Cn (lo:=(((Cp ds zn).1).fixed:Int).toNat) BT O (CX (Bd _)) ⟨_,pI Au⟩ O AZ (Nat.le_refl _) (ML ((Ay t).2) ((((Cp ds zn).1).fixed:Int).toNat))) Aw (Dj [4,3,1] O (A9 [0] O (Bg [3] [5] O O ⟨by rw[Ry (lK hz (by simpa using c) hcc.1 hcc.2 (by rw[TS hx hfx.1];exact c2))],rfl⟩))))))
theorem og:∀(b0:Nat) (x:G3) (nm:ByteArray),BL Tryz.prog 199 [.agg ((Hc x).map .p),.ptr b0 0] [.box b0 [.p (.str nm)]] (Gh (.p (.bool (x.ctor.toList==nm.toList))) [.box b0 [.p (.str nm)]]):=by
 intro b0 x nm;refine DJ Tryz.func199 (CG [0] O O fun b2=>A2 [2] O (Ax (i:=0) OB O O (HV _)) (A2 [1,1] O (Gt O O) (A9 [1] O (Bg [] [1] O O ⟨O,O⟩))))
theorem sv:∀(b0:Nat) (nm:ByteArray) (l:List G3),(l.length<2000000)→BL Tryz.prog 198 [.p (.lst (MW l)),.fn (.func 199) [] [.ptr b0 0]] [.box b0 [.p (.str nm)]] (Gh (.p (I (N4 nm l 0))) [.box b0 [.p (.str nm)]]):=by
 intro b0 nm l h1;refine DJ Tryz.func198 (B9 [2] O O (Gp _) (GG (α:=Nat) [1] [0,1,7] [0] (fun i=>[(8,.p (I (i:Int)))]) (fun _=>[]) (fun i=>l.length - i) (fun i=>i≤l.length∧(N4 nm (l.drop i) (i:Int)=N4 nm l 0)) 0 O O O (⟨by omega,rfl⟩) ?_));rintro i hC
 try simp only at hC
 obtain⟨hi,hC⟩:=hC;refine BC [1] rfl ?_ ?_<;>intro c
 ·refine D6 [5] l i O O O (s9 _) (fun x hx=>?_);refine A2 [1] O (Bi [0] O (.inr O) (og b0 x nm) ⟨_,_,O,O,O⟩ As O (.inl O)) ?_;refine BC [0] rfl ?_ ?_<;>intro c1
  ·refine A9 [2] O (Bg [] [0] O O ⟨pI (by rw[←hC,nq hx (by simpa using c1)]),O⟩)
  exact FR [2] 0 (i+1) O (⟨by omega,by rw[←hC,uA hx (by simpa using c1)];rfl⟩)
 refine DH [0] O (A9 [1] O (Bg [] [0] O O ⟨pI (by rw[←hC,List.drop_eq_nil_of_le Au];rfl),O⟩))
theorem gT:∀(t:FV) (nm:ByteArray),(t.branches.length<2000000)→En Tryz.prog 185 [.agg ((EC t).map .p),.p (.str nm)] (.tup [.agg ((EC ((nW nm t.branches).1)).map .p),.p (.bool ((nW nm t.branches).2))]):=by
 intro t nm h1;refine DJ Tryz.func185 (CG [0] O O fun b2=>CG [0] O O fun b3=>Bp [0] O (Az Vm O) fun b4=>A2 [2] O (Ax (i:=2) IB O O (CC _)) (A2 [1] O (Bi [1] O (.inl ⟨O,O,O⟩) (sv b3 nm t.branches h1) ⟨_,_,O,O,O⟩ As O (.inl O)) ?_));refine Bc [4] 13 rfl rfl ?_ ?_<;>intro g
 ·have hbn:=nU (by simpa using g);refine IC [7] O O (fun c=>?_) (fun c=>by cases c);refine CK [3,0,0] O (A5 (BE (i:=0) O) ?_);refine BP (A9 [0] O (Bg [0] [] O O ⟨by rw[mC hbn];rfl,rfl⟩))
 obtain⟨bx,hbx,hbr⟩:=uK (nm:=nm) (l:=t.branches) (by simpa using g);refine A2 [1] O (Ax (i:=2) IB O O (CC _)) (A2 [1] O (A0 RA O O Au (ID hbx) (EY _)) (A2 [1] O (DR vQ O (HL _)) ?_));refine BC [1] rfl ?_ ?_<;>intro c
 ·refine CK [3,0,0] O (A5 (BE (i:=0) O) ?_);refine BP (A9 [0] O (Bg [0] [] O O ⟨by rw[mC (by rw[hbr,if_pos (by simpa using c)])];rfl,rfl⟩))
 refine A2 [1] O (Ax (i:=2) IB O O (CC _)) (A2 [1] O (A0 RA O O Au (ID hbx) (EY _)) (A2 [1] O (Dh LI O (Gd _) (Dt _)) ?_));refine A9 [2,0,1] O (Bg [0] [] O O ⟨by rw[mq (by rw[hbr,if_neg (by simpa using c)])];try rfl,rfl⟩)
theorem WM:∀(t:FV) (nm:ByteArray),(t.branches.length<2000000)→En Tryz.prog 126 [.agg ((EC t).map .p),.p (.str nm)] (.tup [.agg ((EC ((aP nm t.branches).1)).map .p),.p (.bool ((aP nm t.branches).2))]):=by
 intro t nm h1;refine DJ Tryz.func126 (CG [0] O O fun b2=>Bp [0] O (Az Vm O) fun b4=>GG (α:=Nat) [2] [1,2,4] [0,1] (fun i=>[(6,.p (I (i:Int)))]) (fun _=>[]) (fun i=>t.branches.length - i) (fun i=>i≤t.branches.length∧(aP nm (t.branches.drop i)=aP nm t.branches)) 0 O O O (⟨by omega,rfl⟩) ?_);rintro i hC
 try simp only at hC
 obtain⟨hi,hC⟩:=hC;refine A2 [2] O (Ax (i:=1) IB O O (CC _)) (B9 [0] O O (Gp _) ?_);refine BC [1] rfl ?_ ?_<;>intro c
 ·refine A2 [1] O (Ax (i:=1) IB O O (CC _)) (D6 [1] t.branches i O O O (s9 _) (fun x hx=>?_));refine A2 [1] O (DR OB O (HV _)) (A2 [1] O (Gt O O) ?_);refine BC [0] rfl ?_ ?_<;>intro c1
  ·refine E2 [0] [] O (A3 O (fun _=>BG eD O O) Aw (CF (j:=1) O O O (fun H i hi=>Ax (i:=i) IB O hi (CC _)) AB Aw (A3 O (fun _=>Bj O) Aw (A3 O (fun _=>A0 RA O O Au (ID hx) (EY _)) Aw (A3 O (fun _=>DM rM O O) Aw (A3 O (fun _=>Dh LI O (Gd _) (Dt _)) Aw (A3 O (fun _=>BG eD O O) Aw (CF (j:=1) O O O (fun H i hi=>Ax (i:=i) IB O hi (CC _)) AB Aw (A3 O (fun _=>Bj O) Aw (A3 O (fun _=>A0 RA O O Au (ID hx) (EY _)) Aw (A3 O (fun _=>DM rM O O) Aw ?_)))))))))));refine A3 O (fun _=>DR vQ O (HL _)) Aw ?_;refine Dj [3,0,1] O (A9 [0] O (Bg [0] [] O O ⟨by rw[←hC,lp hx,if_pos (Gi (by simpa using c1))];try rfl,rfl⟩))
  exact FR [3] 0 (i+1) O (⟨by omega,by rw[←hC,lp hx,if_neg (fun e=>by simp[e] at c1)]⟩)
 refine DH [0] O (CK [3,0,0] O (A5 (BE (i:=0) O) ?_));refine BP (A9 [0] O (Bg [0] [] O O ⟨by rw[←hC,List.drop_eq_nil_of_le Au];rfl,rfl⟩))
theorem Fu:∀(b:Nat) (c:Dm) (t:Tm) (e:Int),(Nd t)→BL Tryz.prog 72 [.ptr b 0,.agg ((BD t).map .p),.p (I e)] [.box b ((HQ c).map .p)] (Gh (.agg ((BD t).map .p)) [.box b ((HQ (c.result t e)).map .p)]):=by
 intro b c t e h1;refine DJ Tryz.func72 (CG [0] O O fun b4=>Bp [0] O (Az Ba O) fun b6=>A2 [4,2] O (Eg O O) (E2 [3,2,0] [] O (Bb [5,2,1] O (A3 O (fun _=>BF O O (Nr _ t (Nat.le_refl _) h1) O) Aw (A3 O (fun _=>Eg O O) Aw (Dj [3,2,0] O (A2 [3,1] O (Bi [2] O (.inl ⟨O,O,O⟩) (ph b (Dm.mk (wr ((c.steps:Int)+(1:Int))) (wr ((c.nodes:Int)+(FF t:Int))) c.forms c.limit c.over) t e h1) ⟨_,_,O,O,O⟩ As O (.inl O)) ?_)))))));refine A9 [2,1,0,1] O (Bg [0] [2] O O ⟨O,O⟩)
def xt (ds:List B8) (n:Nat):Prop:=∀(b:Nat) (t:Tm) (c c2:Dm) (r:Tm),FM ds DI n c t= .ok (r,c2)→BL Tryz.prog 61 [.p (.lst (List.map B0 ds)),.agg ((BD t).map .p),.ptr b 0] [.box b ((HQ c).map .p)] (Gh (.agg ((BD r).map .p)) [.box b ((HQ c2).map .p)])
theorem _root_.Go.AW {α:Prop}(h:α:=by first | omega | (simp_all;done) | (simp_all;omega)):α:=h
theorem _root_.Go.AI {α:Prop}(h:α:=by first | (simp only[List.length_map,A8];omega) | (simp_all;done) | (simp_all;omega)):α:=h
theorem _root_.Go.Aa {α:Prop}(h:α:=by simp only[A8,List.length_nil];omega):α:=h
theorem ll:∀(n k:Nat) (ds:List B8) (t:FV) (vs:List Tm) (b:Nat) (c c2:Dm) (q:Option (Tm×List Tm)×Tm),(xt ds n)→(Lb ds)→(XW t vs)→(EA ds DI (FM ds DI n) k t vs BN c= .ok (q,c2))→BL Tryz.prog 120 [.p (.lst (List.map B0 ds)),.agg ((EC t).map .p),.p (.lst (A6 vs)),.ptr b 0] [.box b ((HQ c).map .p)] (Gh (.tup [.agg ((BD (Zu q)).map .p),.p (.lst (A6 (aQ q))),.p (.bool q.1.isSome),.agg ((BD q.2).map .p)]) [.box b ((HQ c2).map .p)]):=by
 intro n k ds t vs b c c2 q hW h2 h3 h4;have h3l:=h3.len;refine DJ Tryz.func120 (CG [0] O O fun b5=>Bp [0] O (Az Ba O) fun b8=>Bp [2] O (Az Ba O) fun b11=>DT [1] O (BJ (DK (t:=12) (sz:=5) O) (BW (DT [2] O ?_))));refine ET O O (Bh (i:=0) (rows':=A6 vs) BT BT Ba O O O O O O (Bd _) Aa (Hl [] vs)) fun o cp=>BW (Bp [2] O (Az Ba O) fun b13=>?_);refine GG (α:=Nat×FV×List Tm×Tm×Dm×Option Nat×Nat) [1,0,0] [0,3,5,8,11,13] [0,1,2,3,4,5] (fun(m,w,us,l,d,o1,cp1)=>[(12,.vs o1 (A6 us).length cp1)]) (fun(m,w,us,l,d,o1,cp1)=>[(0,.box b13 ((BD l).map .p)),(1,.vec o1 5 (A6 us) cp1),(4,.box b5 ((EC w).map .p)),(5,.box b ((HQ d).map .p))]) (fun(m,w,us,l,d,o1,cp1)=>m) (fun(m,w,us,l,d,o1,cp1)=>EA ds DI (FM ds DI n) m w us l d= .ok (q,c2)∧XW w us) ⟨k,t,vs,BN,c,o,cp⟩ O O O (⟨h4,h3⟩) ?_ (e1:=wl (on (O)) (wl (oe O) (wl (oe O) (wl (oe O) (wl (oe O) (wl (oe O) (Ie)))))));rintro⟨m,w,us,l,d,o1,cp1⟩ hC
 try simp only at hC
 obtain⟨hC,hL⟩:=hC;obtain⟨k1,rfl⟩:=iJ hC Av;refine A2 [1] O (Ax (i:=4) Dz O O (HT _)) ?_;refine BC [1] rfl ?_ ?_<;>intro c1
 ·have hk1:=c1;refine CJ [0] 5 [0,3,5,8,11,12,13] 41 (((decide ((w.var:Int)<(0:Int)))||(decide ((w.var:Int)≥((us.length:Nat):Int))))||d.over) O O ?_ ?_
  ·refine A2 [1] O (Ax (i:=4) Dz O O (DD _)) ?_;refine Bc [2] 29 rfl rfl ?_ ?_<;>intro g
   ·exact CT [12] O
   refine A2 [1] O (Ax (i:=4) Dz O O (DD _)) (A2 [1] O (JP BT O (A8 _)) ?_);refine Bc [3] 36 rfl rfl ?_ ?_<;>intro g1
   ·exact CT [5] O
   exact CT [5,5] O
  refine BC [0] rfl ?_ ?_<;>intro c3
  ·have hb:=(KN hk1 (by simpa [or_assoc,DI] using c3)).symm.trans hC;cases hb;refine E2 [0] [] O (Dj [6,0,3,0,2,1] O (CK [0] O ?_));refine A5 (BE (i:=3) O) (A5 (FZ 9) (BP (A9 [0] O (Bg [3,2] [5] O O ⟨O,O⟩))))
  have hcb:=c3;refine A2 [3] O (Ax (i:=4) Dz O O (DD _)) (DT [0] O (I2 (i:=1) O Aj fun b1 hb=>?_));subst hb;refine BW (A2 [0] O (CI BT O O Au AI) ?_);obtain⟨y,hy⟩:=A1 (l:=us) (i:=(w.var:Int).toNat) AW;refine A2 [0] O (Dk (i:=1) CN O O (BO hy)) ?_;obtain⟨⟨r,d2⟩,hr1,hr2,hr3⟩:=HK ((Lp hk1 (by simpa [or_assoc,and_assoc,DI] using hcb) hy).symm.trans hC);refine A2 [1] O (Bi [5] O (.inl ⟨O,O,O⟩) (hW b y (Dm.mk d.steps d.nodes d.forms d.limit d.over) d2 r hr1) ⟨_,_,O,O,O⟩ As O (.inl O)) (CQ [3,0,1,0] O (Ox ds r h2 hr2) (Bp [5] O (Az Ih O) fun b14=>?_));refine BC [6,0,1] rfl ?_ ?_<;>intro c4
  ·have hcn:=Nu c4;rw[G5 hcn] at hr3;cases hr3;refine E2 [0] [] O (Dj [6,1,4,0,3,1] O (CK [0] O ?_));refine A5 (BE (i:=4) O) (A5 (FZ 9) (BP (A9 [0] O (Bg [4,3] [6] O O ⟨O,O⟩))))
  have hcs:=Lc c4;have hcf:=Fv hcs;have hlo:=hcf.lo;have hhi:=hcf.hi;have hfl:=JN h2 hcs;refine E2 [0] [11] O (Bb [2,5] O (CF (j:=0) O O O (fun H i hi=>Ax (i:=i) GB O hi (B5 _)) AB Aw (A3 O (fun _=>Bj O) Aw ?_)));obtain⟨x,hx⟩:=A1 (l:=((Bo ds r).1).ctors) (i:=((Bo ds r).2.1:Int).toNat) Au;refine A3 O (fun _=>A0 Kb O O Au (Gq hx) (Ei _)) Aw (A3 O (fun _=>DM US O O) Aw (A3 O (fun _=>DR OB O (GZ _)) Aw (A3 O (fun _=>BF O O (WM w x.name hL.tin.bl) O) Aw (Bb [3] O (Gf [] O O (Az Vm O) Ap fun b18=>⟨AB,Aw,?_⟩)))));refine Dj [2,0,1] rfl (BC [2] rfl ?_ ?_)<;>intro c5
  ·have hbn:=Z2 c5;rw[JJ hcs (by rw[EJ,CO hx];exact hbn)] at hr3;cases hr3;refine E2 [0] [] O (Dj [6,2,5,0,4,1] O (CK [0] O ?_));refine A5 (BE (i:=5) O) (A5 (FZ 9) (BP (A9 [0] O (Bg [5,4] [7] O O ⟨O,O⟩))))
  have hbs:=Yq c5;rw[JH hcs (by rw[EJ,CO hx];exact hbs)] at hr3;exact DT [4,0,6,1] O (ET O O (Bh (i:=3) (rows':=A6 ((Bo ds r).2.2.1)) BT BT Ba O O O O O O (Bd _) (by have:=hL.len;simp only[A8,List.length_append];omega) (Hl us ((Bo ds r).2.2.1))) fun o2 cp2=>BW (FR [1] 2 ⟨k1,(aP x.name w.branches).1,us++(Bo ds r).2.2.1,r,d2,o2,cp2⟩ O (⟨hr3,hL.next h2 hr2 hcs hbs⟩)))
 have hk1:=c1;rw[Im hk1] at hC;cases hC;refine DH [0] O (A2 [1] O (Bq (i:=4) CN O O (Fo _) (A7 _)) (CK [6,3,1,2,0] O (A5 (CM (i:=1) [12,85,9] O (DA ⟨O,O,O,Aw⟩)) (A5 (BE (i:=1) O) (BP (A9 [0] O (Bg [2,1] [4] O O ⟨O,O⟩)))))))
theorem fG:∀(a b:CW),(N5 a)→(N5 b)→En Tryz.prog 210 [.agg ((B4 a).map .p),.agg ((B4 b).map .p)] (.agg ((B4 (Jd a b)).map .p)):=by
 intro a b h1 h2;have hl:=h1.vars;have hl2:=h2.vars;simp only[DZ] at hl hl2;refine DJ Tryz.func210 (CG [0] O O fun b2=>CG [0] O O fun b3=>Bp [0] O (Az FH O) fun b4=>A2 [4,2,1] O (F7 O O) (Bp [1] O (Az FH O) fun b5=>DT [1,0,0] O (BJ (EX (i:=0) O (Up (aw (we O) (aw (I1) (HW))))) (BJ (H7 (sz:=2)) (BW (GG (α:=Nat×Nat×List B6×Int×Option Nat×Nat) [3] [2,3,4,5] [0,1,2,3,4] (fun(i,k,vs,m,o,cp)=>[(6,.p (I (i:Int))),(7,.p (I (k:Int))),(8,.p (I m))]) (fun(i,k,vs,m,o,cp)=>[(0,.vec o 2 (List.map E0 vs) cp),(1,.box b5 [.p (I (max (a.const:Int) (b.const:Int))),.vs o (List.map E0 vs).length cp])]) (fun(i,k,vs,m,o,cp)=>(a.vars.length - i)+(b.vars.length - k)) (fun(i,k,vs,m,o,cp)=>OI a.vars b.vars i k vs m) ⟨0,0,[],0,none,0⟩ O O O (OI.zero) ?_))))));rintro⟨i,k,vs,m,o,cp⟩ hC
 try simp only at hC
 have hi0:=hC.hi;have hk0:=hC.hk;refine CJ [0] 4 [2,3,4,5,6,7,8] 27 ((decide (((i:Int):Int)<((a.vars.length:Nat):Int)))||(decide (((k:Int):Int)<((b.vars.length:Nat):Int)))) O O ?_ ?_
 ·refine B9 [3,4] O O (List.length_map _) ?_;refine Bc [2] 21 rfl rfl ?_ ?_<;>intro g
  ·exact CT [6] O
  exact B9 [3,3] O O (List.length_map _) (CT [2] O)
 refine BC [0] rfl ?_ ?_<;>intro c
 ·refine Bp [1] O (Az G8 O) fun b9=>CJ [1,0,0] 9 [2,3,4,5,6,7,8,9] 53 (Rn a.vars b.vars i k) O O ?_ ?_
  ·refine E2 [0] [] O (Bb [3,4] O (A3 O (fun _=>Cx DC O (List.length_map _)) Aw (Bb [2] O (Db 59 O (fun g=>?_) (fun g=>?_)))))
   ·(try simp only[sd,se] at g);exact CY tab 22 [] O (Cu (CT [0] O (hr:=(by first | exact pB (PI Au) | exact pB (SE Au Au) | exact pB (Ow hx hx1)))))
   (try simp only[sd,se] at g);refine Bb [3,5] O (Bx O (fun _=>Cx DC O (List.length_map _)) Aw (Bb [2] O (Db 65 O (fun g1=>?_) (fun g1=>?_))))
   ·(try simp only[sd,se] at g1);refine Bb [3,5] O ?_;obtain⟨x,hx⟩:=A1 (l:=a.vars) (i:=i) Au;refine Bx O (fun _=>A0 DC O O Au (DP hx) (O)) Aw (Bb [5,4] O ?_);obtain⟨x1,hx1⟩:=A1 (l:=b.vars) (i:=k) Au;exact Bx O (fun _=>A0 DC O O Au (DP hx1) (O)) Aw (CY tab 6 [] O (Cu (CT [0] O (hr:=(by first | exact pB (PI Au) | exact pB (SE Au Au) | exact pB (Ow hx hx1))))))
   (try simp only[sd,se] at g1);exact CY tab 16 [] O (Cu (CT [0] O (hr:=(by first | exact pB (PI Au) | exact pB (SE Au Au) | exact pB (Ow hx hx1)))))
  refine BC [0] rfl ?_ ?_<;>intro c1
  ·have hi:=qx c1 (by simpa using c);refine D6 [3,5] a.vars i O O O (H5 (f:=E0) fun _=>O) (fun x hx=>?_);exact A2 [8,0,1,0] O (F7 O O) (A2 [4,2,0] O (BH DC G8 O O O O O) (DT [0] O (ET O O (Bh (i:=1) (rows':=List.map E0 [(B6.mk x.index x.plus)]) DC DC G8 O O O O O O (HG _) (by have:=hC.ln;have:=hC.hi;have:=hC.hk;simp only[List.length_map,List.length_append,List.length_cons,List.length_nil];omega) (Fz (f:=E0) vs [(B6.mk x.index x.plus)])) fun o1 cp1=>BW (FR [2,2,0] 1 ⟨i+1,k,vs++[(B6.mk x.index x.plus)],max (m:Int) (x.plus:Int),o1,cp1⟩ O ((by first | exact hC.left hx c1 | exact hC.right hx c1 c2 | exact hC.both hx hx1 c1 c2))))))
  have hk:=nz c1 hC.hk;refine CJ [0] 12 [2,3,4,5,6,7,8,9] 88 (Yk a.vars b.vars i k) O O ?_ ?_
  ·refine E2 [0] [] O (Bb [3,5] O (A3 O (fun _=>Cx DC O (List.length_map _)) Aw (Bb [2] O (Db 94 O (fun g=>?_) (fun g=>?_)))))
   ·(try simp only[sd,se] at g);exact CY tab 15 [] O (Cu (CT [0] O (hr:=(by first | exact pB (S5 Au) | exact pB (Nk hx1 hx) | exact pB (Nk hx hx1)))))
   (try simp only[sd,se] at g);refine Bb [3,4] O ?_;obtain⟨x,hx⟩:=A1 (l:=b.vars) (i:=k) Au;refine Bx O (fun _=>A0 DC O O Au (DP hx) (O)) Aw (Bb [5,5] O ?_);obtain⟨x1,hx1⟩:=A1 (l:=a.vars) (i:=i) Au;exact Bx O (fun _=>A0 DC O O Au (DP hx1) (O)) Aw (CY tab 5 [] O (Cu (CT [0] O (hr:=(by first | exact pB (S5 Au) | exact pB (Nk hx1 hx) | exact pB (Nk hx hx1))))))
  refine BC [0] rfl ?_ ?_<;>intro c2
  ·refine D6 [3,4] b.vars k O O O (H5 (f:=E0) fun _=>O) (fun x hx=>?_);exact A2 [8,0,1,0] O (F7 O O) (A2 [4,2,0] O (BH DC G8 O O O O O) (DT [0] O (ET O O (Bh (i:=1) (rows':=List.map E0 [(B6.mk x.index x.plus)]) DC DC G8 O O O O O O (HG _) (by have:=hC.ln;have:=hC.hi;have:=hC.hk;simp only[List.length_map,List.length_append,List.length_cons,List.length_nil];omega) (Fz (f:=E0) vs [(B6.mk x.index x.plus)])) fun o1 cp1=>BW (FR [2,2,0] 1 ⟨i,k+1,vs++[(B6.mk x.index x.plus)],max (m:Int) (x.plus:Int),o1,cp1⟩ O ((by first | exact hC.left hx c1 | exact hC.right hx c1 c2 | exact hC.both hx hx1 c1 c2))))))
  have hi:=pK c2 hC.hi;refine E2 [0] [] O (Bb [3,5] O ?_);obtain⟨x,hx⟩:=A1 (l:=a.vars) (i:=i) Au;refine A3 O (fun _=>A0 DC O O Au (DP hx) (O)) Aw (Bb [5,5] O (A3 O (fun _=>A0 DC O O Au (DP hx) (O)) Aw (Bb [5,4] O ?_)));obtain⟨x1,hx1⟩:=A1 (l:=b.vars) (i:=k) Au;refine A3 O (fun _=>A0 DC O O Au (DP hx1) (O)) Aw (Bb [2] O (A3 O (fun _=>F7 O O) Aw (Dj [2,0,0] O (A2 [9,0] O (F7 O O) ?_))));exact A2 [4,2,0] O (BH DC G8 O O O O O) (DT [0] O (ET O O (Bh (i:=1) (rows':=List.map E0 [(B6.mk x.index (max (x.plus:Int) (x1.plus:Int)))]) DC DC G8 O O O O O O (HG _) (by have:=hC.ln;have:=hC.hi;have:=hC.hk;simp only[List.length_map,List.length_append,List.length_cons,List.length_nil];omega) (Fz (f:=E0) vs [(B6.mk x.index (max (x.plus:Int) (x1.plus:Int)))])) fun o1 cp1=>BW (FR [2,2,0] 1 ⟨i+1,k+1,vs++[(B6.mk x.index (max (x.plus:Int) (x1.plus:Int)))],max (m:Int) (max (x.plus:Int) (x1.plus:Int):Int),o1,cp1⟩ O ((by first | exact hC.left hx c1 | exact hC.right hx c1 c2 | exact hC.both hx hx1 c1 c2)))))
 refine DH [0] O (CJ [0] 17 [4,5] 135 ((decide (((vs.length:Nat):Int) > (0:Int)))&&(decide ((max (a.const:Int) (b.const:Int):Int)≤(m:Int)))) O O ?_ ?_)
 ·refine A2 [2,1] O (JP DC O (List.length_map _)) ?_;refine Bc [2] 130 rfl rfl ?_ ?_<;>intro g
  ·exact CT [5,1] O
  exact CT [5] O
 refine BC [0] rfl ?_ ?_<;>intro c1
 ·refine DT [0] O (BJ (Cf (i:=0) (j:=1) (q:=1) [] O O O (DA Aw)) ?_);refine BW (A9 [4,0,0,0,1,0] O (Bg [1] [] O O ⟨by rw[ye (hC.fin Au) Au c1.2];rfl,rfl⟩))
 refine DT [0] O (BJ (Cf (i:=0) (j:=1) (q:=1) [] O O O (DA Aw)) ?_);refine BW (A9 [2,0,1,0] O (Bg [1] [] O O ⟨by rw[yW (hC.fin Au) Au];rfl,rfl⟩))
theorem pv:∀(l:CW) (ps:List CW),(B1 l=true)→(ps.length<DZ)→(∀p∈ps,B1 p=true)→En Tryz.prog 202 [.agg ((B4 l).map .p),.p (.lst (List.map B4 ps)),.p (.bool false)] (.tup [.agg ((B4 ((Hn ps ⟨l.const,[]⟩ l.vars).1)).map .p),.p (I ((Hn ps ⟨l.const,[]⟩ l.vars).2))]):=by
 intro l ps h1 h2 h3;have hL:=Js.of h1;have hl:=hL.len;simp only[DZ] at h2;refine DJ Tryz.func202 (CG [0] O O fun b3=>Bp [0] O (Az FH O) fun b6=>CQ [3,1] O (gH l.const) (Bp [0] O (Az FH O) fun b8=>GG (α:=Nat×CW) [2,0,1] [1,2,3,6,8] [0,1,2] (fun(i,q)=>[(9,.p (I (i:Int)))]) (fun(i,q)=>[(0,.box b8 ((B4 q).map .p))]) (fun(i,q)=>l.vars.length - i) (fun(i,q)=>i≤l.vars.length∧(Js q∧Hn ps q (l.vars.drop i)=Hn ps ⟨l.const,[]⟩ l.vars)) ⟨0,(⟨l.const,[]⟩:CW)⟩ O O O (⟨by omega,Js.num hL.c,rfl⟩) ?_));rintro⟨i,q⟩ hC
 try simp only at hC
 obtain⟨hi,hC⟩:=hC;refine B9 [3,2] O O (List.length_map _) ?_;refine BC [1] rfl ?_ ?_<;>intro c
 ·obtain⟨x,hx⟩:=A1 (l:=l.vars) (i:=i) Au;have hv:=Ll h1 hx;refine A2 [3,2] O (A0 DC O O Au (DP hx) (O)) (Bp [1] O (Az G8 O) fun b10=>?_);refine IC [5,0,1,0] O O (fun c1=>by cases c1) (fun c1=>?_);refine A2 [1,0] O (BH DC G8 O O O O O) (Bp [1] O (Az FH O) fun b12=>CJ [1,0,0] 10 [1,2,3,6,8,9,10,11,12] 49 (((decide ((x.index:Int)<(0:Int)))==false)&&(decide ((x.index:Int)<((ps.length:Nat):Int)))) O O ?_ ?_)
  ·refine A2 [4,1] O (T5 wv O O) ?_;refine Bc [1] 44 rfl rfl ?_ ?_<;>intro g
   ·exact B9 [2] O O (List.length_map _) (CT [2] O)
   exact CT [5] O
  refine BC [0] rfl ?_ ?_<;>intro c2
  ·refine E2 [0] [10] O (Bb [2] O ?_);obtain⟨x1,hx1⟩:=A1 (l:=ps) (i:=(x.index:Int).toNat) Au;have hv:=Ll h1 hx;refine A3 O (fun _=>A0 KW O O Au (PW hx1) (E4 _)) Aw (Bb [3,1] O (A3 O (fun _=>BF O O (n4 x1 x.plus (Js.of (h3 _ (List.mem_of_getElem? hx1))).nd) O) Aw (Bb [3] O (Gf [] O O (Az FH O) Ap fun b13=>⟨AB,Aw,?_⟩))));refine Dj [2,0,1] rfl (BC [2] rfl ?_ ?_)<;>intro c3
   ·refine CK [4,4,0] O (A5 (BE (i:=4) O) ?_);refine BP (A9 [0] O (Bg [4] [] O O ⟨by rw[show Hn ps ⟨l.const,[]⟩ l.vars=_ from hC.2.symm.trans (yM hx c2.1 c2.2 hx1 c3)];rfl,rfl⟩))
   refine CQ [4,0,1,1,3,1] O (fG q ((F5 x1 x.plus).1) hC.1.nd (by first | exact(Js.one hv).nd | exact(Js.plus (h3 _ (List.mem_of_getElem? hx1)) hv.1.1 hv.1.2 c3).nd)) ?_;exact FR [4,3,1] 3 ⟨i+1,Jd q ((F5 x1 x.plus).1)⟩ O (⟨by omega,(by first | exact⟨hC.1.join (Js.plus (h3 _ (List.mem_of_getElem? hx1)) hv.1.1 hv.1.2 c3),(yD hx c2.1 c2.2 hx1 c3).symm.trans hC.2⟩ | exact⟨hC.1.join (Js.one hv),(w4 hx Au).symm.trans hC.2⟩ | exact⟨hC.1.join (Js.one hv),(w4 hx (fun hh=>by have:=c2 hh.1;omega)).symm.trans hC.2⟩)⟩)
  refine CQ [2,2,0] O (fG q (CW.mk 0 [(B6.mk x.index x.plus)]) hC.1.nd (by first | exact(Js.one hv).nd | exact(Js.plus (h3 _ (List.mem_of_getElem? hx1)) hv.1.1 hv.1.2 c3).nd)) ?_;exact FR [4,2,1] 2 ⟨i+1,Jd q (CW.mk 0 [(B6.mk x.index x.plus)])⟩ O (⟨by omega,(by first | exact⟨hC.1.join (Js.plus (h3 _ (List.mem_of_getElem? hx1)) hv.1.1 hv.1.2 c3),(yD hx c2.1 c2.2 hx1 c3).symm.trans hC.2⟩ | exact⟨hC.1.join (Js.one hv),(w4 hx Au).symm.trans hC.2⟩ | exact⟨hC.1.join (Js.one hv),(w4 hx (fun hh=>by have:=c2 hh.1;omega)).symm.trans hC.2⟩)⟩)
 refine DH [0] O ?_;refine A9 [3,0,1,1] O (Bg [1] [] O O ⟨by rw[←hC.2,List.drop_eq_nil_of_le Au];rfl,rfl⟩)
theorem lk:∀(l:CW) (ps:List CW),(N5 l)→(ps.length<DZ)→(∀p∈ps,N5 p)→En Tryz.prog 188 [.agg ((B4 l).map .p),.p (.lst (List.map B4 ps))] (.tup [.agg ((B4 ((C5 l ps).1)).map .p),.p (I ((C5 l ps).2))]):=by
 intro l ps h1 h2 h3;have hl:=h1.vars;have hl2:=h2;simp only[DZ] at hl hl2;refine DJ Tryz.func188 (CG [0] O O fun b2=>Bp [0] O (Az FH O) fun b4=>CJ [1] 1 [1,2,4] 13 ((!(B1 l))||(!(ps.all B1))) O O ?_ ?_)
 ·refine CQ [1,1] O (Mw l h1) ?_;refine Bc [2] 9 rfl rfl ?_ ?_<;>intro g
  ·exact CT [4] O
  exact CQ [1] O (Zv ps h2 h3) (CT [2] O)
 refine BC [0] rfl ?_ ?_<;>intro c
 ·refine CK [3,0,0] O (A5 (BE (i:=0) O) ?_);refine BP (A9 [0] O (Bg [0] [] O O ⟨by rw[show C5 l ps=(GA,3) by rw[C5,if_pos (by simpa using c)]];rfl,rfl⟩))
 have hv:B1 l=true∧ps.all B1=true:=by simpa using c
 refine CQ [1,1] O (iQ l h1) (B9 [1] O O (List.length_map _) ?_);refine BC [1] rfl ?_ ?_<;>intro c1
 ·refine CK [3,0,0] O (A5 (BE (i:=0) O) ?_);refine BP (A9 [0] O (Bg [0] [] O O ⟨by rw[show C5 l ps=(GA,24) by rw[C5,if_neg (by simp[hv]),if_pos c1]];rfl,rfl⟩))
 refine CQ [2,1] O (pv l ps hv.1 h2 (List.all_eq_true.1 hv.2)) ?_;refine A9 [4,0,1] O (Bg [0] [] O O ⟨by rw[show C5 l ps=Hn ps ⟨l.const,[]⟩ l.vars by rw[C5,if_neg (by simp[hv]),if_neg Au]];try rfl,rfl⟩)
theorem iN:∀(n:Nat) (t:Tm) (ps:List CW) (b:Nat) (er nd:Int),(size t≤n)→(Nd t)→(ps.length<DZ)→(∀p∈ps,N5 p)→BL Tryz.prog 162 [.ptr b 0,.agg ((BD t).map .p),.p (.lst (List.map B4 ps)),.p (.bool false)] [.box b [.p (I er),.p (I nd)]] (Gh (.agg ((BD ((JL ps er t).1)).map .p)) [.box b [.p (I ((JL ps er t).2)),.p (I nd)]]):=by
 intro n
 induction n with
 | zero=>intro t ps b er nd h;cases t;simp[size] at h
 | succ n ih =>
  intro t ps b er nd h1 h2 h3 h4;obtain⟨tk,ti,tn,tl,ts⟩:=t;simp only[size] at h1;have h2n:=h2;simp only[Nd,DZ] at h2;refine DJ Tryz.func162 (CG [0] O O fun b5=>Bp [0] O (Az Ba O) fun b8=>CK [2] O (A5 (DK (t:=9) (sz:=2) O) ?_));refine BP (GG (α:=Nat×List CW×Int×Option Nat×Nat) [0] [0,2,3,5,8] [0,1,2,3] (fun(i,ys,e,o,cp)=>[(9,.vs o (List.map B4 ys).length cp),(10,.p (I (i:Int)))]) (fun(i,ys,e,o,cp)=>[(0,.vec o 2 (List.map B4 ys) cp),(3,.box b [.p (I e),.p (I nd)])]) (fun(i,ys,e,o,cp)=>tl.length - i) (fun(i,ys,e,o,cp)=>i≤tl.length∧(ys.length=i∧(ys++(F3 ps e (tl.drop i)).1,(F3 ps e (tl.drop i)).2)=F3 ps er tl)) ⟨0,[],er,none,0⟩ O O O (⟨by omega,by simp⟩) ?_);rintro⟨i,ys,e,o,cp⟩ hC
  try simp only at hC
  obtain⟨hi,hl,hC⟩:=hC;refine B9 [3,2] O O (List.length_map _) ?_;refine BC [1] rfl ?_ ?_<;>intro c
  ·refine D6 [3,2] tl i O O O (H5 E4) (fun x hx=>?_);refine CQ [2] O (lk x ps (h2.2.2.1 _ (List.mem_of_getElem? hx)) h3 h4) (Bp [3] O (Az FH O) fun b11=>?_);refine IC [3,0,1] O O (fun c1=>by cases c1) (fun c1=>?_);refine BC [2] rfl ?_ ?_<;>intro c2
   ·refine A2 [2] O (Bi [4] O (.inl ⟨O,O,O⟩) (bM b e nd ((C5 x ps).2)) ⟨_,_,O,O,O⟩ As O (.inl O)) (A2 [2,0] O (BH KW FH O O O O O) (DT [0] O (ET O O (Bh (i:=1) (rows':=List.map B4 [(CW.mk (((C5 x ps).1).const) (((C5 x ps).1).vars))]) KW KW FH O O O O O O (NZ _) AD (Fz (f:=B4) ys [(CW.mk (((C5 x ps).1).const) (((C5 x ps).1).vars))])) fun o1 cp1=>?_)));exact BW (FR [4] 1 ⟨i+1,ys++[(C5 x ps).1],Gm e ((C5 x ps).2),o1,cp1⟩ O (⟨by omega,⟨by simp[hl],by rw[←hC,Cd hx];first | (simp[F3];done) | (simp[F3,aT,c2];done)⟩⟩))
   refine A2 [2,0] O (BH KW FH O O O O O) (DT [0] O (ET O O (Bh (i:=1) (rows':=List.map B4 [(CW.mk (((C5 x ps).1).const) (((C5 x ps).1).vars))]) KW KW FH O O O O O O (NZ _) AD (Fz (f:=B4) ys [(CW.mk (((C5 x ps).1).const) (((C5 x ps).1).vars))])) fun o1 cp1=>?_));exact BW (FR [4] 1 ⟨i+1,ys++[(C5 x ps).1],e,o1,cp1⟩ O (⟨by omega,⟨by simp[hl],by rw[←hC,Cd hx];first | (simp[F3];done) | (simp[F3,aT,c2];done)⟩⟩))
  refine DH [0] O (DT [2] O (BJ (CM (i:=0) [9,52] O (DA ⟨O,O,Aw⟩)) (BW (CK [3,1,0] O ?_))));refine A5 (DK (t:=13) (sz:=5) O) ?_;refine BP (GG (α:=Nat×List Tm×Int×Option Nat×Nat) [0] [0,2,3,5,8] [0,1,2,3] (fun(i,zs,e2,o1,cp1)=>[(13,.vs o1 (A6 zs).length cp1),(14,.p (I (i:Int)))]) (fun(i,zs,e2,o1,cp1)=>[(0,.vec o1 5 (A6 zs) cp1),(3,.box b [.p (I e2),.p (I nd)])]) (fun(i,zs,e2,o1,cp1)=>ts.length - i) (fun(i,zs,e2,o1,cp1)=>i≤ts.length∧(zs.length=i∧(zs++(HZ ps e2 (ts.drop i)).1,(HZ ps e2 (ts.drop i)).2)=HZ ps e ts)) ⟨0,[],e,none,0⟩ O O O (⟨by omega,by simp⟩) ?_);rintro⟨i,zs,e2,o1,cp1⟩ hC1
  try simp only at hC1
  obtain⟨hi,hl2,hC2⟩:=hC1;refine B9 [3,2] O O (A8 _) ?_;refine BC [1] rfl ?_ ?_<;>intro c1
  ·refine D6 [5,2] ts i O O O (IH _) (fun x hx=>?_);refine A2 [3] O (Bi [3] O (.inl ⟨O,O,O⟩) (ih x ps b e2 nd (by have:=CU hx;omega) (DU h2.2.2.2.2.1 hx) h3 h4) ⟨_,_,O,O,O⟩ As O (.inl O)) ?_;generalize hz:(JL ps e2 x).1=z;obtain⟨zk,zi,zn,zl,zs1⟩:=z;refine A2 [0] O (BH BT Ba O O O O O) (DT [0] O (ET O O (Bh (i:=0) (rows':=A6 [(.mk zk zi zn zl zs1:Tm)]) BT BT Ba O O O O O O (Bd _) AD (Hl zs [(.mk zk zi zn zl zs1:Tm)])) fun o2 cp2=>?_));exact BW (FR [4] 0 ⟨i+1,zs++[(JL ps e2 x).1],(JL ps e2 x).2,o2,cp2⟩ O (⟨by omega,⟨by simp[hl2],by rw[←hC2,Cd hx];simp[HZ]⟩⟩) (e1:=⟨we (H9 (zs++[(.mk zk zi zn zl zs1:Tm)]) (by rw[hz])),we rfl,trivial⟩) (e2:=wl (Gw (zs++[(.mk zk zi zn zl zs1:Tm)]) (by rw[hz])) (wl (oe rfl) (wl (oe rfl) (wl (oe rfl) (Ie))))))
  refine DH [0] O (DT [2] O (BJ (CM (i:=0) [13,73] O (DA ⟨O,O,Aw⟩)) (BW (A9 [3,1,0,1,0,0] O (Bg [0] [2] O O ?_)))));refine⟨by show (.agg [.p (I tk),.p (I ti),.p (.str tn),.p (.lst (List.map B4 ys)),.p (.lst (A6 zs))]:AV)=_;rw[dY (mH hC Au) (lr hC2 Au)];rfl,?_⟩;show ([.box b [.p (I e2),.p (I nd)]]:List A4)=_;rw[dY (mH hC Au) (lr hC2 Au)]
theorem Lw:∀(t:Tm) (ps:List CW),(Nd t)→(ps.length<DZ)→(∀p∈ps,N5 p)→En Tryz.prog 119 [.agg ((BD t).map .p),.p (.lst (List.map B4 ps))] (.tup [.agg ((BD ((BU t ps).1)).map .p),.p (I ((BU t ps).2))]):=by
 intro t ps h1 h2 h3;refine DJ Tryz.func119 (CG [0] O O fun b2=>Bp [0] O (Az Ba O) fun b4=>CG [2] O O fun b9=>A2 [4,2] O (Bi [0] O (.inl ⟨O,O,O⟩) (iN _ t ps b9 0 0 (Nat.le_refl _) h1 h2 h3) ⟨_,_,O,O,O⟩ As O (.inl O)) (Bp [0] O (Az Ba O) fun b7=>?_));refine BC [6,0,1,1] rfl ?_ ?_<;>intro c
 ·refine E2 [0] [] O (Dj [7,1,2,0] O (CK [0] O ?_));refine A5 (BE (i:=2) O) ?_;refine BP (A9 [0] O (Bg [2] [] O O ⟨by rw[show BU t ps=(BN,(JL ps 0 t).2) by rw[BU,if_pos c]];rfl,rfl⟩))
 refine A9 [3,0,2,1] O (Bg [2] [] O O ⟨by rw[show BU t ps=((JL ps 0 t).1,0) by rw[BU,if_neg Au]];try rfl,rfl⟩)
theorem _root_.Go.Ab {α:Prop}(h:α:=by simp only[DZ,List.length_drop];omega):α:=h
theorem ZL:∀(ds:List B8) (g:Tm) (a:List Tm) (m:Tm) (b:Nat) (c c2:Dm) (q:Option Tm),(Lb ds)→((Cp ds g.name).1∈ds)→(okB g=true)→(okB m=true)→(Bv (Cp ds g.name).1<a.length)→(a.length<549755813888)→(ES ds DI (Cp ds g.name).1 g a m c= .ok (q,c2))→BL Tryz.prog 77 [.p (.lst (List.map B0 ds)),.agg ((BD g).map .p),.p (.lst (A6 a)),.agg ((BD m).map .p),.ptr b 0] [.box b ((HQ c).map .p)] (Gh (.tup [.agg ((BD (q.getD BN)).map .p),.p (.bool q.isSome)]) [.box b ((HQ c2).map .p)]):=by
 intro ds g a m b c c2 q h1 h2 h3 h4 h5 h6 h7;obtain⟨gk,gi,gn,gl,gs⟩:=g;simp only[Tm.name] at h2 h5 h7;have hdg:=h1.all _ h2;have hnr:=KI hdg;have hgo:=Bu.1 h3;have hgl:=hgo.nd;simp only[Nd,DZ] at hgl;have hcl:=hdg.din.cl;have hrl:=hdg.din.rl;have hfx:=hdg.fx;have hir:=GL hdg.din hdg.fx;refine DJ Tryz.func77 (CG [0] O O fun b6=>CG [0] O O fun b8=>Bp [0] O (Az Ba O) fun b10=>CQ [4,2] O (Tr ds gn h1.env) (Bp [4] O (Az Ih O) fun b12=>CQ [5,0,1,2] O (Ox ds m h1 h4) (Bp [5] O (Az Ih O) fun b15=>CJ [4,0,1] 3 [2,4,6,10,12,16,17] 54 (((!((Bo ds m).2.2.2))||(!((((Bo ds m).1).name).toList==(((Cp ds gn).1).name).toList)))||(decide (((Bo ds m).2.1:Int)≥(((((Cp ds gn).1).recs.rules).length:Nat):Int)))) O O ?_ ?_)))
 ·refine Bc [3] 40 rfl rfl ?_ ?_<;>intro g1
  ·exact CT [14] O
  refine A2 [1] O (Ax (i:=0) OB O O (Da _)) (A2 [1] O (Ax (i:=1) OB O O (Da _)) (A2 [0] O (Jq O O) ?_));refine Bc [2] 47 rfl rfl ?_ ?_<;>intro g2
  ·exact CT [7] O
  exact A2 [3] O (Ax (i:=1) JX O O (Co _)) (B9 [0] O O (A8 _) (CT [2] O))
 refine BC [0] rfl ?_ ?_<;>intro c1
 ·have hq:=(Yx (S:=DI) (h:= .mk gk gi gn gl gs) (a:=a) (s:=c) c1).symm.trans h7;cases hq;refine CK [3,2,0] O (A5 (BE (i:=2) O) (BP (A9 [0] O (Bg [2] [5] O O ⟨O,O⟩))))
 obtain⟨hg1,hg2,hg3⟩:=WU c1;have hg4:=c1.2;have hfl:=JN h1 hg1;refine E2 [0] [12] O (Bb [2] O (CF (j:=1) O O O (fun H i hi=>Ax (i:=i) JX O hi (Co _)) AB Aw (A3 O (fun _=>Bj O) Aw ?_)));obtain⟨x,hx⟩:=A1 (l:=((Cp ds gn).1).recs.rules) (i:=((Bo ds m).2.1:Int).toNat) Au;have hro:=Bu.1 (hdg.ru _ (List.mem_of_getElem? hx));refine A3 O (fun _=>A0 BT O O Au (BO hx) (A7 _)) Aw (Bb [3,4] O (A3 O (fun _=>BF O O (Lw x gl hro.nd hgl.2.1 hgl.2.2.1) O) Aw (Bb [3] O (Gf [] O O (Az Ba O) Ap fun b19=>⟨AB,Aw,?_⟩))));refine Dj [2,0,1] rfl (BC [2] rfl ?_ ?_)<;>intro c3
 ·have hq:=(NA (S:=DI) (h:= .mk gk gi gn gl gs) (a:=a) (s:=c) hg1 hg2 hx c3).symm.trans h7;cases hq;refine CK [3,3,0] O (A5 (BE (i:=3) O) (BP (A9 [0] O (Bg [3] [6] O O ⟨O,O⟩))))
 have hq:=(Nw (S:=DI) (h:= .mk gk gi gn gl gs) (a:=a) (s:=c) hg1 hg2 hx c3).symm.trans h7;obtain⟨hpo,hpe⟩:=IL (h:=(by rw[hq];simp));rw[hpe] at hq;cases hq;refine E2 [0] [11] O (Bb [3,0] O (CF (j:=2) O O O (fun H i hi=>Ax (i:=i) Dz O hi (Cr _)) AB Aw (Bb [2] O (CF (j:=2) O O O (fun H i hi=>Ax (i:=i) GB O hi (B5 _)) AB Aw (A3 O (fun _=>Cx Kb O (List.length_map _)) Aw (A3 O (fun _=>KZ O O Au Au) Aw (A3 O (fun _=>Cn (lo:=0) (hi:=(((((Cp ds gn).1).fixed:Int)+(1:Int):Int)+(((((Cp ds gn).1).ctors).length:Nat):Int):Int).toNat) BT O (CX (Bd _)) O ⟨_,pI Au⟩ (Nat.zero_le _) AZ (WD a ((((((Cp ds gn).1).fixed:Int)+(1:Int):Int)+(((((Cp ds gn).1).ctors).length:Nat):Int):Int).toNat))) Aw ?_)))))));refine A3 O (fun _=>BF O O (Ef ((BU x gl).1) (a.take ((((((Cp ds gn).1).fixed:Int)+(1:Int):Int)+(((((Cp ds gn).1).ctors).length:Nat):Int):Int).toNat)) (by simp only[DZ,List.length_take];omega)) O) Aw (Gf [] O O (Az Ba O) Ap fun b21=>⟨AB,Aw,?_⟩);refine Dj [1,0,1] O (E2 [0] [] O ?_);refine Bb [3,0] O (A3 O (fun _=>BF O O (Ef (apply ((BU x gl).1) (a.take ((((((Cp ds gn).1).fixed:Int)+(1:Int):Int)+(((((Cp ds gn).1).ctors).length:Nat):Int):Int).toNat))) ((Bo ds m).2.2.1) Ak) O) Aw (FB O O (Bi [7] O (.inl ⟨O,O,O⟩) (Fu b c (apply (apply ((BU x gl).1) (a.take ((((((Cp ds gn).1).fixed:Int)+(1:Int):Int)+(((((Cp ds gn).1).ctors).length:Nat):Int):Int).toNat))) ((Bo ds m).2.2.1)) 0 (Bu.1 hpo).nd) ⟨_,_,O,O,O⟩ As O (.inl O)) AB Aw (Bb [2,3] O (A3 O (fun _=>BF O O (LM ((Cp ds gn).1) hdg.din hdg.fx) O) Aw (A3 O (fun _=>KZ O O Au Au) Aw ?_)))));refine A3 O (fun _=>Cn (lo:=((Bv ((Cp ds gn).1):Int)+(1:Int):Int).toNat) BT O (CX (Bd _)) ⟨_,pI Au⟩ O AZ (Nat.le_refl _) (ML a (((Bv ((Cp ds gn).1):Int)+(1:Int):Int).toNat))) Aw (A3 O (fun _=>BF O O (Ef (apply (apply ((BU x gl).1) (a.take ((((((Cp ds gn).1).fixed:Int)+(1:Int):Int)+(((((Cp ds gn).1).ctors).length:Nat):Int):Int).toNat))) ((Bo ds m).2.2.1)) (a.drop (((Bv ((Cp ds gn).1):Int)+(1:Int):Int).toNat)) Ab) O) Aw (Dj [2,4,1] O (A9 [0] O (Bg [4] [7] O O ⟨O,O⟩))))
theorem V0:∀(n:Nat) (ds:List B8) (g:Tm) (a:List Tm) (b:Nat) (c c2:Dm) (q:Option Tm),(xt ds n)→(G2 ds)→(okB g=true)→(∀x∈a,okB x=true)→(a.length<549755813888)→(Dc ds DI (FM ds DI n) n g a c= .ok (q,c2))→BL Tryz.prog 74 [.p (.lst (List.map B0 ds)),.agg ((BD g).map .p),.p (.lst (A6 a)),.ptr b 0] [.box b ((HQ c).map .p)] (Gh (.tup [.agg ((BD (q.getD BN)).map .p),.p (.bool q.isSome)]) [.box b ((HQ c2).map .p)]):=by
 intro n ds g a b c c2 q hW h2 h3 h4 h5 h6;obtain⟨gk,gi,gn,gl,gs⟩:=g;have hgo:=Bu.1 h3;have hgl:=hgo.nd;simp only[Nd,DZ] at hgl;refine DJ Tryz.func74 (CG [0] O O fun b5=>Bp [0] O (Az Ba O) fun b8=>CQ [3,1] O (Tl ds (.mk gk gi gn gl gs:Tm) h2.g.env) (Bp [3] O (Az GK O) fun b10=>?_));refine BC [4,0,1] rfl ?_ ?_<;>intro c1
 ·have hq:=(MF (E:=ds) (S:=DI) (W:=FM ds DI n) (n:=n) (h:=(.mk gk gi gn gl gs:Tm)) (a:=a) (s:=c) c1).symm.trans h6;cases hq;refine CK [3,1,0] O (A5 (BE (i:=1) O) (BP (A9 [0] O (Bg [1] [3] O O ⟨O,O⟩))))
 have hu:=c1;obtain⟨ix,dd,e1,e2,e3,e4⟩:=KF hu;have hde:=e2.decl;have hdg:=h2.g.all _ e3;have hel:=h2.g.env.len;have hil:=(List.getElem?_eq_some_iff.1 e1).1;have hfx:=hdg.fx;have hnr:=KI hdg;have hcl:=hdg.din.cl;have hfl:=hdg.din.fl;refine A2 [2] O (Ax (i:=0) Dz O O (EO _)) (A2 [0] O (A0 QV O O Au (HI e4) (DF _)) (Bp [1] O (Az Ih O) fun b12=>A2 [2,0,1] O (Ax (i:=1) Dz O O (Fb _)) ?_));refine BC [2] rfl ?_ ?_<;>intro c3
 ·have hk1:=c3;refine A2 [1] O (Bq (i:=0) CN O O (Ft _) (A7 _)) (CQ [2,3] O (Lw dd.value gl (Bu.1 hdg.vl).nd hgl.2.1 hgl.2.2.1) (Bp [3] O (Az Ba O) fun b13=>?_));refine BC [4,0,1] rfl ?_ ?_<;>intro c4
  ·have hq:=((Jx (E:=ds) (S:=DI) (W:=FM ds DI n) (n:=n) (h:=(.mk gk gi gn gl gs:Tm)) (a:=a) (s:=c) (d:=dd) hu e4 hk1).trans (Jw (h:=(.mk gk gi gn gl gs:Tm)) c4)).symm.trans h6;cases hq;refine CK [3,3,0] O (A5 (BE (i:=3) O) (BP (A9 [0] O (Bg [3] [5] O O ⟨O,O⟩))))
  have hq:=((Jx (E:=ds) (S:=DI) (W:=FM ds DI n) (n:=n) (h:=(.mk gk gi gn gl gs:Tm)) (a:=a) (s:=c) (d:=dd) hu e4 hk1).trans (KC (h:=(.mk gk gi gn gl gs:Tm)) c4)).symm.trans h6;obtain⟨hpo,hpe⟩:=IL (h:=(by rw[hq];simp));rw[hpe] at hq;cases hq;refine A2 [2,0] O (Bi [5] O (.inl ⟨O,O,O⟩) (Fu b c ((BU dd.value gl).1) 0 (Bu.1 hpo).nd) ⟨_,_,O,O,O⟩ As O (.inl O)) (CQ [1] O (Ef ((BU dd.value gl).1) a Ak) (A9 [2,3,1] O (Bg [3] [5] O O ⟨O,O⟩)))
 have hk1:=c3;refine BC [2] rfl ?_ ?_<;>intro c4
 ·have hk5:=c4;refine B9 [1] O O (A8 _) (CQ [1,0] O (LM dd hdg.din hdg.fx) ?_);refine BC [1] rfl ?_ ?_<;>intro c5
  ·have hq:=((Jr (E:=ds) (S:=DI) (W:=FM ds DI n) (n:=n) (h:=(.mk gk gi gn gl gs:Tm)) (a:=a) (s:=c) (d:=dd) hu e4 hk5).trans (Rt Au)).symm.trans h6;cases hq;refine CK [3,2,0] O (A5 (BE (i:=2) O) (BP (A9 [0] O (Bg [2] [4] O O ⟨O,O⟩))))
  refine E2 [0] [] O (Bb [6,3,0] O (A3 O (fun _=>BF O O (LM dd hdg.din hdg.fx) O) Aw ?_));obtain⟨x,hx⟩:=A1 (l:=a) (i:=(Bv dd:Int).toNat) Au;obtain⟨⟨r,d2⟩,hr1,hr2,hr3⟩:=HK (((Jr (E:=ds) (S:=DI) (W:=FM ds DI n) (n:=n) (h:=(.mk gk gi gn gl gs:Tm)) (a:=a) (s:=c) (d:=dd) hu e4 hk5).trans (XU Au hx)).symm.trans h6);have hfd:=kn (dq hu) hk5 e4;refine A3 O (fun _=>A0 BT O O Au (BO hx) (A7 _)) Aw (Bb [2] O (FB O O (Bi [4] O (.inl ⟨O,O,O⟩) (hW b x c d2 r hr1) ⟨_,_,O,O,O⟩ As O (.inl O)) AB Aw (A3 O (fun _=>Bj O) Aw (FB O O (Bi [4] O (.inl ⟨O,O,O⟩) (ZL ds (.mk gk gi gn gl gs:Tm) a r b d2 c2 q h2.g (hfd▸e3) h3 hr2 (by rw[hfd];omega) h5 (by rw[hfd];exact hr3)) ⟨_,_,O,O,O⟩ As O (.inl O)) AB Aw (Dj [4,2,1] O (A9 [0] O (Bg [2] [4] O O ⟨O,O⟩)))))))
 have hk5:=c4;refine BC [2] rfl ?_ ?_<;>intro c5
 ·have hk6:=c5;obtain⟨fk,ff,f1,f2⟩:=e2.func hk6;have hfi:=(List.getElem?_eq_some_iff.1 f1).1;have hff:dd.funs[(BY ds (Tm.mk gk gi gn gl gs).name).1.item.toNat]?=some ff:=by rw[f2];simpa using f1
  have hfm:=List.mem_of_getElem? f1;have hfa:=hdg.fu ff hfm;refine A2 [1] O (Ax (i:=0) F4 O O (CD _)) (A2 [1] O (Ax (i:=1) Dz O O (Gb _)) (A2 [0] O (A0 J4 O O Au (Fh hff) (Ee _)) (Bp [1] O (Az kK O) fun b15=>B9 [2,0,1] O O (A8 _) (A2 [1] O (Ax (i:=0) Dz O O (C9 _)) ?_))));refine BC [1] rfl ?_ ?_<;>intro c6
  ·have hq:=((Il (E:=ds) (S:=DI) (W:=FM ds DI n) (n:=n) (h:=(.mk gk gi gn gl gs:Tm)) (a:=a) (s:=c) (d:=dd) (f:=ff) hu e4 hk6 hff).trans (NY Au)).symm.trans h6;cases hq;refine CK [3,3,0] O (A5 (BE (i:=3) O) (BP (A9 [0] O (Bg [3] [5] O O ⟨O,O⟩))))
  have hl0:¬(a.length:Int)<ff.arity:=by omega
  obtain⟨⟨lq,d2⟩,hl1,hl2⟩:=D8 (((Il (E:=ds) (S:=DI) (W:=FM ds DI n) (n:=n) (h:=(.mk gk gi gn gl gs:Tm)) (a:=a) (s:=c) (d:=dd) (f:=ff) hu e4 hk6 hff).trans (Mz hl0)).symm.trans h6);have hlo:=Ya h2.g _ _ _ _ _ _ _ (fZ h2 e3 hfm h4) hl1;refine CK [0] O ?_;refine Pp [.box b15 ((Iy ff).map .p),.box b12 ((B0 dd).map .p),.box b10 ((GJ ((BY ds (.mk gk gi gn gl gs:Tm).name).1)).map .p),.box b8 [.p (I 0),.p (I 0),.p (.str ⟨#[]⟩),.p (.nils),.p (.nils)],.box b5 [.p (I gk),.p (I gi),.p (.str gn),.p (.lst (List.map B4 gl)),.p (.lst (A6 gs))],.box b ((HQ d2).map .p)] 8 [.val (.p (.lst (List.map B0 ds))),.val (.ptr b15 (0+7)),.val (.agg ((EC ff.tree).map .p)),.val (.p (.lst (A6 a))),.val (.ptr b15 (0+6)),.val (.p (I ff.arity)),.val (.p (.lst (A6 (a.take ((ff.arity:Int).toNat))))),.val (.ptr b 0),.val (.tup [.agg ((BD (Zu lq)).map .p),.p (.lst (A6 (aQ lq))),.p (.bool lq.1.isSome),.agg ((BD lq.2).map .p)]),.val (.tup [.agg ((BD (Zu lq)).map .p),.p (.lst (A6 (aQ lq))),.p (.bool lq.1.isSome),.agg ((BD lq.2).map .p)]),.val (.agg ((BD (Zu lq)).map .p)),.val (.p (.lst (A6 (aQ lq)))),.val (.p (.bool lq.1.isSome)),.val (.agg ((BD lq.2).map .p)),.new [.p (I 0),.p (I 0),.p (.str ⟨#[]⟩),.p (.nils),.p (.nils)],.new [.p (I 0),.p (I 0),.p (.str ⟨#[]⟩),.p (.nils),.p (.nils)]] [.p .any,.p (.lst (A6 (aQ lq))),.p (.bool lq.1.isSome),.p .any] [11,12,13] Oq O Ap Ap Ap O ?_;refine Ca O O (fun Bs=>Bj O) (Ca O O (fun Bs=>BG Pd O O) (MC O O O (fun Bs=>Bq (i:=Bs.length+0) LI O (EB O) (HR _) (Dt _)) (fun _ Bs=>Bq (i:=Bs.length+0) LI O (EB O) (HR _) (Dt _)) (Ca O O (fun Bs=>Bj O) (Ca O O (fun Bs=>BG Pd O O) (MC O O O (fun Bs=>Ax (i:=Bs.length+0) Dz O (EB O) (C9 _)) (fun _ Bs=>Ax (i:=Bs.length+0) Dz O (EB O) (C9 _)) (Ca O O (fun Bs=>Cn (lo:=0) (hi:=(ff.arity:Int).toNat) BT O (CX (Bd _)) O ⟨_,pI Au⟩ (Nat.zero_le _) AZ (WD a ((ff.arity:Int).toNat))) (Ca O O (fun Bs=>Bj O) ?_)))))))
  refine Ts O O (fun Bs=>Mu [5] O (.inl ⟨O,O,O⟩) (ll n n ds ff.tree (a.take ((ff.arity:Int).toNat)) b c d2 lq hW h2.g (fZ h2 e3 hfm h4) hl1) ⟨_,_,O,O,O⟩ As O (aw (we O) (aw (we O) (aw (we O) (aw (we O) (HW)))))) (Ca O O (fun Bs=>Bj O) (Ca O O (fun Bs=>HN O O) (Ca O O (fun Bs=>HN O O) (Ca O O (fun Bs=>HN O O) (Ca O O (fun Bs=>HN O O) (lJ O O (fun Bs=>Az Ba O) fun b16=>lJ O O (fun Bs=>Az Ba O) fun b19=>KQ ?_))))));refine Ht [.box b16 ((BD (Zu lq)).map .p),.box b19 [.p (I 0),.p (I 0),.p (.str ⟨#[]⟩),.p (.nils),.p (.nils)],.box b15 ((Iy ff).map .p),.box b12 ((B0 dd).map .p),.box b10 ((GJ ((BY ds (.mk gk gi gn gl gs:Tm).name).1)).map .p),.box b8 [.p (I 0),.p (I 0),.p (.str ⟨#[]⟩),.p (.nils),.p (.nils)],.box b5 [.p (I gk),.p (I gi),.p (.str gn),.p (.lst (List.map B4 gl)),.p (.lst (A6 gs))],.box b ((HQ d2).map .p)] O (DX (i:=0) CN O O O Am Ag (Gc _)) ?_;refine Ht [.box b16 ((BD (Zu lq)).map .p),.box b19 [.p (I 0),.p (I 0),.p (.str ⟨#[]⟩),.p (.nils),.p (.nils)],.box b15 ((Iy ff).map .p),.box b12 ((B0 dd).map .p),.box b10 ((GJ ((BY ds (.mk gk gi gn gl gs:Tm).name).1)).map .p),.box b8 [.p (I 0),.p (I 0),.p (.str ⟨#[]⟩),.p (.nils),.p (.nils)],.box b5 [.p (I gk),.p (I gi),.p (.str gn),.p (.lst (List.map B4 gl)),.p (.lst (A6 gs))],.box b ((HQ d2).map .p)] O (H6 O) ?_;refine Ht [.box b16 ((BD (Zu lq)).map .p),.box b19 [.p (I 0),.p (I 0),.p (.str ⟨#[]⟩),.p (.nils),.p (.nils)],.box b15 ((Iy ff).map .p),.box b12 ((B0 dd).map .p),.box b10 ((GJ ((BY ds (.mk gk gi gn gl gs:Tm).name).1)).map .p),.box b8 [.p (I 0),.p (I 0),.p (.str ⟨#[]⟩),.p (.nils),.p (.nils)],.box b5 [.p (I gk),.p (I gi),.p (.str gn),.p (.lst (List.map B4 gl)),.p (.lst (A6 gs))],.box b ((HQ d2).map .p)] O (H6 O) ?_;refine Ht [.box b16 ((BD (Zu lq)).map .p),.box b19 ((BD lq.2).map .p),.box b15 ((Iy ff).map .p),.box b12 ((B0 dd).map .p),.box b10 ((GJ ((BY ds (.mk gk gi gn gl gs:Tm).name).1)).map .p),.box b8 [.p (I 0),.p (I 0),.p (.str ⟨#[]⟩),.p (.nils),.p (.nils)],.box b5 [.p (I gk),.p (I gi),.p (.str gn),.p (.lst (List.map B4 gl)),.p (.lst (A6 gs))],.box b ((HQ d2).map .p)] O (DX (i:=1) CN O O O Am Ag (Gc _)) (Ob (Cu (CJ [0] 20 [2,3,5,8,15,16,17] 114 ((!lq.1.isSome)||d2.over) O O ?_ ?_)))
  ·refine Bc [3] 109 rfl rfl ?_ ?_<;>intro g1
   ·exact CT [5] O
   exact CT [5,7] O
  refine BC [0] rfl ?_ ?_<;>intro c7
  ·rw[Lo (by simpa [DI] using c7)] at hl2;cases hl2;refine CK [3,5,0] O (A5 (BE (i:=5) O) (BP (A9 [0] O (Bg [5] [7] O O ⟨O,O⟩))))
  rw[Od (by simpa using c7.1) (by simpa [DI] using c7.2)] at hl2;refine CQ [3,0,6] O (Lw (Zu lq) gl (Bu.1 hlo.1).nd hgl.2.1 hgl.2.2.1) (Bp [3] O (Az Ba O) fun b20=>?_);refine BC [4,0,1] rfl ?_ ?_<;>intro c8
  ·rw[J0 (h:=(.mk gk gi gn gl gs:Tm)) c8] at hl2;cases hl2;refine CK [3,6,0] O (A5 (BE (i:=6) O) (BP (A9 [0] O (Bg [6] [8] O O ⟨O,O⟩))))
  obtain⟨hb1,hb2,hb3,hb4⟩:=Xc (by rw[hl2];simp) c8;rw[hb4] at hl2;obtain⟨hpo,hpe⟩:=IL (h:=(by rw[hl2];simp));rw[hpe] at hl2;cases hl2;refine E2 [0] [] O (Bb [2,0] O (A3 O (fun _=>BF O O (Py (aQ lq) Ak) O) Aw ?_));refine A3 O (fun _=>BF O O (LU ((BU (Zu lq) gl).1) ((aQ lq).reverse) (by have:=Fs (t:=(BU (Zu lq) gl).1) hb1;omega) (Bu.1 hb1).nd (FG (bB hb2)).1 (by rw[QW];omega)) O) Aw ?_;refine Dj [5,0,1] O (E2 [0] [] O ?_);refine Bb [3,0] O (FB O O (Bi [8] O (.inl ⟨O,O,O⟩) (Fu b (Dm.mk d2.steps d2.nodes d2.forms d2.limit d2.over) ((CA ((BU (Zu lq) gl).1) ((aQ lq).reverse) 0).1) ((CA ((BU (Zu lq) gl).1) ((aQ lq).reverse) 0).2) (Bu.1 hpo).nd) ⟨_,_,O,O,O⟩ As O (.inl O)) AB Aw (Bb [2] O (CF (j:=3) O O O (fun H i hi=>Ax (i:=i) Dz O hi (C9 _)) AB Aw (A3 O (fun _=>Cn (lo:=(ff.arity:Int).toNat) BT O (CX (Bd _)) ⟨_,pI Au⟩ O AZ (Nat.le_refl _) (ML a ((ff.arity:Int).toNat))) Aw (A3 O (fun _=>BF O O (Ef ((CA ((BU (Zu lq) gl).1) ((aQ lq).reverse) 0).1) (a.drop ((ff.arity:Int).toNat)) Ab) O) Aw (Dj [2,6,1] O (A9 [0] O (Bg [6] [8] O O ⟨O,O⟩))))))))
 have hq:=(PB (E:=ds) (S:=DI) (W:=FM ds DI n) (n:=n) (h:=(.mk gk gi gn gl gs:Tm)) (a:=a) (s:=c) hu hk1 hk5 c5).symm.trans h6;cases hq;refine CK [3,2,0] O (A5 (BE (i:=2) O) (BP (A9 [0] O (Bg [2] [4] O O ⟨O,O⟩))))
theorem _root_.Go.AX {α:Prop}(h:α:=by first | decide | (simp only[A8];omega)):α:=h
set_option maxHeartbeats 4000000 in
theorem ZQ:∀(ds:List B8) (hE:G2 ds) (n:Nat),xt ds n:=by
 intro ds hE n
 induction n using Nat.strongRecOn with
 | ind n ih =>
  intro b t c c2 r h1;refine DJ Tryz.func61 (CG [0] O O fun b4=>Bp [0] O (Az Ba O) fun b6=>GG (α:=Nat×Tm×Dm) [0] [0,2,4,6] [0,1,2] (fun(m,w,d)=>[]) (fun(m,w,d)=>[(1,.box b4 ((BD w).map .p)),(2,.box b ((HQ d).map .p))]) (fun(m,w,d)=>m) (fun(m,w,d)=>FM ds DI m d w= .ok (r,c2)∧m≤n) ⟨n,t,c⟩ O O O (⟨h1,Nat.le_refl _⟩) ?_);rintro⟨m,w,d⟩ hC
  try simp only at hC
  obtain⟨hC,hmn⟩:=hC;obtain⟨k,rfl⟩:=oK hC Av;have hwo:=bD hC Av;have hsp:=Q7 hwo;have hsl:=hsp.len;have hss:=hsp.sz;have hsa:=hsp.asz;refine BC [5,2] rfl ?_ ?_<;>intro c1
  ·have hov:DI.over d=false:=by simpa [DI] using c1
   refine CQ [1,1] O (LG _ w (Nat.le_refl _) Ak) (Bp [3] O (Az Ba O) fun b7=>?_);generalize hz:(Ay w).1=z;obtain⟨zk,zi,zn,zl,zs⟩:=z;have hzo:okB (.mk zk zi zn zl zs)=true:=hz▸hsp.head;have hzl:=KK hzo;have hzn:=(Bu.1 hzo).nd;refine BC [6,0,1,0] rfl ?_ ?_<;>intro c3
   ·have hk:=(congrArg Tm.kind hz).trans c3;refine B9 [1] O O (A8 _) ?_;refine BC [1] rfl ?_ ?_<;>intro c4
    ·have hq:=(Lf hwo hov rfl hk Au).symm.trans hC;cases hq;refine A9 [2,2,1,1] O (Bg [1] [3] O O ⟨O,O⟩)
    refine E2 [0] [10] O (Bb [2,0] O ?_);obtain⟨x,hx⟩:=A1 (l:=zs) (i:=1) Au;have hxo:=Fg hzo (i:=1) hx;have hq:=(S1 hwo hov rfl hk Au (by rw[hz];exact hx)).symm.trans hC;obtain⟨hpo,hpe⟩:=IL (h:=(by rw[hq];simp));rw[hpe] at hq;refine A3 O (fun _=>A0 BT O O Au (BO hx) (A7 _)) Aw (Bb [2] O (A3 O (fun _=>Cn (lo:=0) (hi:=1) BT O (CX (Bd _)) O ⟨_,O⟩ (Nat.zero_le _) AZ (WD ((Ay w).2) 1)) Aw (A3 O (fun _=>BF O O (LU x (((Ay w).2).take 1) (by have:=Fs hxo;omega) (Bu.1 hxo).nd (Vw hsp.args) (by have:=DE (Ay w).2 1;omega)) O) Aw (Bb [3] O (Gf [] O O (Az Ba O) Ap fun b9=>⟨AB,Aw,?_⟩)))));refine Dj [2,0,1] O (E2 [0] [] O ?_);refine Bb [3,0] O (FB O O (Bi [4] O (.inl ⟨O,O,O⟩) (Fu b (Dm.mk d.steps d.nodes d.forms d.limit d.over) ((CA x (((Ay w).2).take 1) 0).1) ((CA x (((Ay w).2).take 1) 0).2) (Bu.1 hpo).nd) ⟨_,_,O,O,O⟩ As O (.inl O)) AB Aw (A3 O (fun _=>Bj O) Aw (A3 O (fun _=>Cn (lo:=1) BT O (CX (Bd _)) ⟨_,O⟩ O AZ (Nat.le_refl _) (ML ((Ay w).2) 1)) Aw (A3 O (fun _=>BF O O (Ef ((CA x (((Ay w).2).take 1) 0).1) (((Ay w).2).drop 1) Ab) O) Aw (CY tab 1 [3,1] O ?_)))));exact Cu (FR [0] 2 ⟨k,(apply ((CA x (((Ay w).2).take 1) 0).1) (((Ay w).2).drop 1)),((Dm.mk d.steps d.nodes d.forms d.limit d.over).result ((CA x (((Ay w).2).take 1) 0).1) ((CA x (((Ay w).2).take 1) 0).2))⟩ O (⟨hq,by omega⟩))
   refine BC [2] rfl ?_ ?_<;>intro c4
   ·have hk:=(congrArg Tm.kind hz).trans c4;refine E2 [0] [11] O (Bb [2,0] O ?_);obtain⟨x,hx⟩:=A1 (l:=zs) (i:=2) Au;have hxo:=Fg hzo (i:=2) hx;obtain⟨v,hv⟩:=A1 (l:=zs) (i:=1) Au;have hvo:=Fg hzo (i:=1) hv;have hq:=(Tj hwo hov rfl hk (by rw[hz];exact hv) (by rw[hz];exact hx)).symm.trans hC;rw[←Qm hv] at hq;obtain⟨hpo,hpe⟩:=IL (h:=(by rw[hq];simp));rw[hpe] at hq;refine A3 O (fun _=>A0 BT O O Au (BO hx) (A7 _)) Aw (Bb [3,0] O (A3 O (fun _=>Cn (lo:=1) (hi:=2) BT O (CX (Bd _)) ⟨_,O⟩ ⟨_,O⟩ AX AX (kR zs 1 2)) Aw (A3 O (fun _=>BF O O (LU x ((zs.take 2).drop 1) (by have:=Fs hxo;omega) (Bu.1 hxo).nd (by rw[Qm hv];exact⟨(Bu.1 hvo).nd,trivial⟩) (by rw[Qm hv];have:=Fs hvo;simp only[BB];omega)) O) Aw (Bb [3] O (Gf [] O O (Az Ba O) Ap fun b11=>⟨AB,Aw,?_⟩)))));refine Dj [2,0,1] O (A2 [3,0] O (Bi [4] O (.inl ⟨O,O,O⟩) (Fu b (Dm.mk d.steps d.nodes d.forms d.limit d.over) ((CA x ((zs.take 2).drop 1) 0).1) ((CA x ((zs.take 2).drop 1) 0).2) (Bu.1 hpo).nd) ⟨_,_,O,O,O⟩ As O (.inl O)) ?_);refine CQ [1] O (Ef ((CA x ((zs.take 2).drop 1) 0).1) ((Ay w).2) Ab) ?_;exact FR [1,3,1] 2 ⟨k,(apply ((CA x ((zs.take 2).drop 1) 0).1) ((Ay w).2)),((Dm.mk d.steps d.nodes d.forms d.limit d.over).result ((CA x ((zs.take 2).drop 1) 0).1) ((CA x ((zs.take 2).drop 1) 0).2))⟩ O (⟨hq,by omega⟩)
   refine CJ [2] 999999 [0,2,4,6,7,8,27] 71 (decide (zk=9∨zk=10)) O O ?_ ?_
   ·refine BC [0] rfl ?_ ?_<;>intro c5
    ·exact CT [0] O (hr:=(by refine pB (Bool.eq_iff_iff.2 ?_);simp only[beq_iff_eq,decide_eq_true_eq];omega))
    exact CT [2] O (hr:=(by refine pB (Bool.eq_iff_iff.2 ?_);simp only[beq_iff_eq,decide_eq_true_eq];omega))
   refine BC [0] rfl ?_ ?_<;>intro c5
   ·have hk9:zk=9∨zk=10:=by simpa using c5
    obtain⟨x,hx⟩:=A1 (l:=zs) (i:=0) Au;obtain⟨⟨pr,d2⟩,hr1,hr2,hr3⟩:=HK ((L5 hwo hov rfl (by rw[hz];exact hk9) (by rw[hz];exact hx)).symm.trans hC);refine A2 [3,0] O (A0 BT O O Au (BO hx) (A7 _)) (A2 [2] O (Bi [3] O (.inl ⟨O,O,O⟩) (ih k Au b x (Dm.mk d.steps d.nodes d.forms d.limit d.over) d2 pr hr1) ⟨_,_,O,O,O⟩ As O (.inl O)) (Bp [0] O (Az Ba O) fun b13=>?_));obtain⟨prk,pri,prn,prl,prs⟩:=pr;have hprl:=KK hr2;refine BC [4,0,1,0] rfl ?_ ?_<;>intro c6
    ·rw[KP (r:=(Tm.mk prk pri prn prl prs,d2)) c6] at hr3;cases hr3;refine A2 [3,1,0] O (BH BT Ba O O O O O) (A2 [2] O (Ia O O (Ef (.mk zk 0 ⟨#[]⟩ [] [(.mk prk pri prn prl prs:Tm)]:Tm) ((Ay w).2) Ab) (aw (FY O) (aw (we O) (HW)))) ?_);refine A9 [1,2,1] O (Bg [2] [4] O O ⟨by rw[hz];rfl,rfl⟩)
    have hp8:=c6;obtain⟨x1,hx1⟩:=A1 (l:=prs) (i:=(((1:Int)+(zk:Int):Int) - (9:Int):Int).toNat) Au;have hxo:=Fg hr2 (i:=(1+zk - 9).toNat) hx1;have hq:=(PT (r:=(Tm.mk prk pri prn prl prs,d2)) (h:=(Ay w).1) hp8 (by rw[hz];exact hx1)).symm.trans hr3;obtain⟨hpo,hpe⟩:=IL (h:=(by rw[hq];simp));rw[hpe] at hq;refine A2 [7,0,1] O (A0 BT O O Au (BO hx1) (A7 _)) (A2 [1] O (Bi [4] O (.inl ⟨O,O,O⟩) (Fu b d2 x1 0 (Bu.1 hpo).nd) ⟨_,_,O,O,O⟩ As O (.inl O)) (CQ [1] O (Ef x1 ((Ay w).2) Ab) ?_));exact FR [1,3,1] 2 ⟨k,(apply x1 ((Ay w).2)),(d2.result x1 0)⟩ O (⟨hq,by omega⟩)
   refine BC [2] rfl ?_ ?_<;>intro c6
   ·have hk:=(congrArg Tm.kind hz).trans c6;obtain⟨⟨q,d2⟩,hc1,hc2⟩:=D8 ((JG hwo hov rfl hk).symm.trans hC);refine A2 [4,0] O (Bi [3] O (.inl ⟨O,O,O⟩) (V0 k ds (.mk zk zi zn zl zs:Tm) ((Ay w).2) b (Dm.mk d.steps d.nodes d.forms d.limit d.over) d2 q (ih k Au) hE hzo hsp.args Au (by rw[←hz];exact hc1)) ⟨_,_,O,O,O⟩ As O (.inl O)) (Bp [3] O (Az Ba O) fun b14=>?_);refine BC [4,0,1] rfl ?_ ?_<;>intro c7
    ·rw[TB (by simpa using c7)] at hc2;cases hc2;refine A9 [2,3,2,1] O (Bg [2] [4] O O ⟨O,O⟩)
    rw[S3 (by simpa using c7)] at hc2;have hq:=hc2;exact FR [2,0,3,1] 2 ⟨k,(q.getD BN),d2⟩ O (⟨hq,by omega⟩)
   have hq:=(Ua hwo hov rfl (by rw[hz];assumption) (by rw[hz];assumption) (by rw[hz];show ¬zk=9;omega) (by rw[hz];show ¬zk=10;omega) (by rw[hz];assumption)).symm.trans hC;cases hq;refine A9 [2,2,1,1] O (Bg [1] [3] O O ⟨O,O⟩)
  have hq:=(dz (S:=DI) (E:=ds) (n:=k) hwo (by simpa [DI] using c1)).symm.trans hC;cases hq;refine DH [0] O (A9 [2,1,0,1] O (Bg [0] [2] O O ⟨O,O⟩))
end Go.Proofs.YtldfmjoncbjldaaGreat
namespace Go.Eu
open Go.Abs
section
variable {E:List B8}{σ:Type}{S:Sys σ}{R:σ→σ→Prop}
structure kE (S:Sys σ) (R:σ→σ→Prop):Prop where
 rf:∀s,R s s
 tr:∀{a b c},R a b→R b c→R a c
 rs:∀{s t e s'},S.res s t e=some s'→R s s'
variable (h:kE S R)
include h
theorem L3 {α:Type}{s:σ}{x:Tm×Int}{k:Tm→σ→Out (α×σ)}{q:α×σ}(hk:∀t s' q,k t s'= .ok q→R s' q.2) (hq:S.put s x k= .ok q):R s q.2:=by
 unfold Sys.put at hq;split at hq
 ·cases hs:S.res s x.1 x.2 with
  | none=>rw[hs] at hq;cases hq
  | some s'=>rw[hs] at hq;exact h.tr (h.rs hs) (hk _ _ _ hq)
 cases hq
theorem UO {W:σ→Tm→Out (Tm×σ)}(hW:∀s t q,W s t= .ok q→R s q.2):∀(k:Nat) (t:FV) (vs:List Tm) (l:Tm) (s:σ) (q:(Option (Tm×List Tm)×Tm)×σ),EA E S W k t vs l s= .ok q→R s q.2
 | 0,t,vs,l,s,q,hq=>by rw[EA] at hq;cases hq
 | k+1,t,vs,l,s,q,hq=>by
  by_cases hk:t.kind=1
  ·by_cases hb:t.var<0∨t.var≥(vs.length:Int)∨S.over s=true
   ·rw[KN hk hb] at hq;cases hq;exact h.rf _
   have hlt:t.var.toNat<vs.length:=by omega
   rw[Lp hk hb (List.getElem?_eq_getElem hlt)] at hq;obtain⟨r,h1,h2,h3⟩:=HK hq;have hr:=hW _ _ _ h1;cases hc:Ce E r.1 with
   | none=>rw[G5 hc] at h3;cases h3;exact hr
   | some p =>
    obtain⟨d,j,f⟩:=p;cases hbr:Cl (EJ d j).name t.branches with
    | none=>rw[JJ hc hbr] at h3;cases h3;exact hr
    | some t'=>rw[JH hc hbr] at h3;exact h.tr hr (UO hW k t' _ _ _ _ h3)
  rw[Im hk] at hq;cases hq;exact h.rf _
theorem Zx {d:B8}{g m:Tm}{a:List Tm}{s:σ}{q:Option Tm×σ}(hq:ES E S d g a m s= .ok q):R s q.2:=by
 unfold ES at hq;split at hq
 ·cases hq;exact h.rf _
 split at hq
 ·cases hq;exact h.rf _
 split at hq
 ·cases hq;exact h.rf _
 exact L3 h (fun t s' q e=>by cases e;exact h.rf _) hq
theorem js {g b:Tm}{vs rest:List Tm}{s:σ}{q:Option Tm×σ}(hq:FE S g b vs rest s= .ok q):R s q.2:=by
 unfold FE at hq;split at hq
 ·cases hq;exact h.rf _
 split at hq
 ·cases hq
 exact L3 h (fun t s' q e=>by cases e;exact h.rf _) hq
theorem iD {d:B8}{g:Tm}{a:List Tm}{s:σ}{q:Option Tm×σ}(hq:EL S d g a s= .ok q):R s q.2:=by
 unfold EL at hq;split at hq
 ·cases hq;exact h.rf _
 exact L3 h (fun t s' q e=>by cases e;exact h.rf _) hq
theorem V2 {W:σ→Tm→Out (Tm×σ)}(hW:∀s t q,W s t= .ok q→R s q.2) {n:Nat}{g:Tm}{a:List Tm}{s:σ}{q:Option Tm×σ}(hq:Dc E S W n g a s= .ok q):R s q.2:=by
 unfold Dc at hq;split at hq
 ·cases hq;exact h.rf _
 split at hq
 ·exact iD h hq
 split at hq
 ·unfold Qj at hq;split at hq
  ·cases hq;exact h.rf _
  obtain⟨r,h1,h2,h3⟩:=HK hq;exact h.tr (hW _ _ _ h1) (Zx h h3)
 split at hq
 ·unfold Iw at hq;split at hq
  ·cases hq;exact h.rf _
  obtain⟨r,h1,h2⟩:=D8 hq;have hr:=UO h hW _ _ _ _ _ _ h1;split at h2
  ·cases h2;exact hr
  split at h2
  ·cases h2;exact hr
  exact h.tr hr (js h h2)
 cases hq;exact h.rf _
theorem Wp:∀(n:Nat) (s:σ) (t:Tm) (q:Tm×σ),FM E S n s t= .ok q→R s q.2
 | 0,s,t,q,hq=>by rw[FM] at hq;cases hq
 | n+1,s,t,q,hq=>by
  have ih:=Wp n;rw[FM] at hq;split at hq
  ·cases hq
  split at hq
  ·cases hq;exact h.rf _
  split at hq
  ·cases hq
  split at hq
  ·split at hq
   ·cases hq;exact h.rf _
   unfold KG at hq;split at hq
   ·cases hq
   exact L3 h (fun t s' q e=>ih _ _ _ e) hq
  split at hq
  ·unfold Oj at hq;split at hq
   ·exact L3 h (fun t s' q e=>ih _ _ _ e) hq
   cases hq
  split at hq
  ·split at hq
   ·cases hq
   obtain⟨r,h1,h2,h3⟩:=HK hq;have hr:=ih _ _ _ h1;split at h3
   ·cases h3;exact hr
   unfold Je at h3;split at h3
   ·cases h3
   exact h.tr hr (L3 h (fun t s' q e=>ih _ _ _ e) h3)
  split at hq
  ·obtain⟨r,h1,h2⟩:=D8 hq;have hr:=V2 h ih h1;split at h2
   ·cases h2;exact hr
   exact h.tr hr (ih _ _ _ h2)
  cases hq;exact h.rf _
end
theorem Qp:kE CE (fun a b=>b≤a∧(0≤a→0≤b)):=by
 refine⟨fun s=>⟨Int.le_refl _,fun h=>h⟩,fun h1 h2=>⟨by omega,fun h=>h2.2 (h1.2 h)⟩,fun h=>?_⟩;simp only[CE] at h;split at h
 ·cases h
 cases h;omega
def Ml (n:Int):Except Int Unit:=if n - 1<0 then .error 0 else .ok ()
def K7 (n:Int) (x:Tm×Int):Except Int (Tm×Int):=if n - 1<0∨x.2≠0 then .error 0 else .ok (x.1,n - 1)
theorem wW {n:Int}(h:0≤n - 1):Ml n= .ok ():=by rw[Ml,if_neg Au]
theorem wY {n:Int}(h:n - 1<0):Ml n= .error 0:=by rw[Ml,if_pos h]
end Go.Eu
namespace Go.Eu
theorem Yf {t:Tm}{vs:List Tm}(ht:okB t=true) (hv:∀v∈vs,okB v=true) (hl:vs.length<549755813888):He t vs 0=CA t vs 0 :=
 im (fj hv hl) (Bu.1 ht).wt (Bu.1 ht).vp (by have:=Fs ht;omega)
theorem jd {n e:Int}{x:Tm×Int}(h:Ml n= .error e):K7 n x= .error e:=by
 unfold Ml at h;split at h
 ·rename_i hn;cases h;rw[K7,if_pos (.inl hn)]
 cases h
theorem u7 {n:Int}{t:Tm}{vs:List Tm}(hn:0≤n) (ht:okB t=true) (hv:∀v∈vs,okB v=true) (hl:vs.length<549755813888) (he:(He t vs 0).2≠0):K7 n (CA t vs 0)= .error 0:=by
 rw[Yf ht hv hl] at he;rw[K7,if_pos (.inr he)]
theorem ur {n:Int}{t:Tm}{vs:List Tm}{u:Unit}(hn:Ml n= .ok u) (ht:okB t=true) (hv:∀v∈vs,okB v=true) (hl:vs.length<549755813888) (he:(He t vs 0).2=0):K7 n (CA t vs 0)= .ok ((He t vs 0).1,n - 1):=by
 rw[Yf ht hv hl] at he ⊢;unfold Ml at hn;split at hn
 ·cases hn
 rw[K7,if_neg Au]
end Go.Eu
namespace Go.Eu
open Go.Abs
section
variable {α:Type}{n n2 e:Int}{x:Tm×Int}{z t:Tm}{k:Tm→Int→Out α}{u:Unit}
theorem S8 (hs:CE.put n x k≠ .stuck) (h:K7 n x= .ok (z,n2)):CE.put n x k=k z n2:=by
 rw[(SH hs).2];unfold K7 at h;split at h
 ·cases h
 rename_i hn;cases h;rw[if_neg hn]
theorem S4 (hs:CE.put n x k≠ .stuck) (h:K7 n x= .error e):(CE.put n x k).ex= .error e:=by
 rw[(SH hs).2];unfold K7 at h;split at h
 ·rename_i hn;cases h;rw[if_pos hn];rfl
 cases h
theorem wS (h:Ml n= .ok u):K7 n (t,0)= .ok (t,n - 1):=by
 unfold Ml at h;split at h
 ·cases h
 rw[K7,if_neg Au]
theorem lT (hs:CE.put n (t,0) k≠ .stuck) (h:Ml n= .ok u):CE.put n (t,0) k=k t (n - 1):=S8 hs (wS h)
theorem mr (hs:CE.put n (t,0) k≠ .stuck) (h:Ml n= .error e):(CE.put n (t,0) k).ex= .error e:=S4 hs (jd h)
end
theorem kr {n n2:Int}{x:Tm×Int}{z:Tm}(h:N1 n) (hp:K7 n x= .ok (z,n2)):N1 n2∧z=x.1:=by
 have h1:=h.1;have h2:=h.2;unfold K7 at hp;split at hp
 ·cases hp
 cases hp;exact⟨⟨by omega,by omega⟩,rfl⟩
section
variable {E:List B8}{g m:Tm}{a:List Tm}{s e:Int}{d:B8}{u:Unit}
theorem jL (hs:EL CE d g a s≠ .stuck) (he:(BU d.value g.levels).2=0) (hn:Ml s= .ok u):EL CE d g a s= .ok (some (apply (BU d.value g.levels).1 a),s - 1):=by
 rw[KC he] at hs ⊢;exact lT hs hn
theorem mn (hs:EL CE d g a s≠ .stuck) (he:(BU d.value g.levels).2=0) (hn:Ml s= .error e):(EL CE d g a s).ex= .error e:=by
 rw[KC he] at hs ⊢;exact mr hs hn
theorem qF {c:B8}{j:Int}{f:List Tm}{r:Tm}(hs:ES E CE d g a m s≠ .stuck) (hc:Ce E m=some (c,j,f)) (hn:¬(c.name≠d.name∨j≥(d.recs.rules.length:Int))) (hr:d.recs.rules[j.toNat]?=some r) (he:(BU r g.levels).2=0) (hk:Ml s= .ok u) :
  ES E CE d g a m s= .ok (some (apply (apply (apply (BU r g.levels).1 (a.take (d.fixed+1+d.ctors.length).toNat)) f) (a.drop (Bv d+1).toNat)),s - 1):=by
 rw[Nw hc hn hr he] at hs ⊢;exact lT hs hk
theorem pq {c:B8}{j:Int}{f:List Tm}{r:Tm}(hs:ES E CE d g a m s≠ .stuck) (hc:Ce E m=some (c,j,f)) (hn:¬(c.name≠d.name∨j≥(d.recs.rules.length:Int))) (hr:d.recs.rules[j.toNat]?=some r) (he:(BU r g.levels).2=0) (hk:Ml s= .error e) :
  (ES E CE d g a m s).ex= .error e:=by
 rw[Nw hc hn hr he] at hs ⊢;exact mr hs hk
end
end Go.Eu
namespace Go.Eu
theorem wZ {l:List Tm}{x:Tm}(h:l[0]?=some x):l.take 1=[x]:=by
 cases l with
 | nil=>simp at h
 | cons a l=>simp at h;subst h;rfl
theorem ok_one {x:Tm}(h:okB x=true):∀v∈[x],okB v=true:=fun v hv=>by rw[List.mem_singleton.1 hv];exact h
theorem SG {x:Tm}:[x].length<549755813888:=by simp
end Go.Eu
namespace Go.Proofs.YtldfmjoncbjldaaGreat
open Go.Abs Go.Eu
theorem PN:∀(m:Nat) (ds:List B8) (n:Int),(N1 n)→BL Tryz.prog 148 [.ptr m 0] [.box m [.p (.lst (List.map B0 ds)),.p (I n)]] (Oa (fun(r:Unit)=> .tup []) (fun _=> .p (.iface 178 .unit)) (fun r H'=>H'=[.box m [.p (.lst (List.map B0 ds)),.p (I (n - 1))]]) (Ml n)):=by
 intro m ds n h1;have hn:=h1.1;have hn2:=h1.2;refine DJ Tryz.func148 ?_;refine BC [13,0,0,0,0] rfl ?_ ?_<;>intro c
 ·exact A2 [1] O (M6 Ap O) (DT [0] O (UT O O (P4 O) (⟨O,_,List.nil_sublist _,⟨_,wY Au,O⟩⟩)))
 refine Ku [0] O ⟨O,_,_,O,(G7 (is:=[0]) O),?_⟩;exact⟨(),wW Au,O,O⟩
theorem TG:∀(m:Nat) (ds:List B8) (n:Int) (t:Tm) (vs:List Tm),(N1 n)→(okB t=true)→(∀v∈vs,okB v=true)→(vs.length<549755813888)→BL Tryz.prog 113 [.ptr m 0,.agg ((BD t).map .p),.p (.lst (A6 vs))] [.box m [.p (.lst (List.map B0 ds)),.p (I n)]] (Oa (fun(r:Tm×Int)=>TV r.1) (fun _=> .p (.iface 178 .unit)) (fun r H'=>H'=[.box m [.p (.lst (List.map B0 ds)),.p (I r.2)]]) (K7 n (CA t vs 0))):=by
 intro m ds n t vs h1 h2 h3 h4;have hn:=h1.1;have hto:=Bu.1 h2;have hts:=hto.sz;have hvo:=FG h3;refine DJ Tryz.func113 (CG [0] O O fun b4=>Bp [0] O (Az Ba O) fun b6=>DT [1] O (GR [2] O O O (.inl ⟨O,O,O⟩) (PN m ds n h1) ⟨_,_,O,O,O⟩ As (aw (we O) (HW)) (fun _ _ h=>(congrArg List.length h).trans O) ?_ ?_))
 rotate_left
 ·intro e _ he;exact⟨O,_,List.nil_sublist _,⟨_,jd he,O⟩⟩
 rintro _ _ hz rfl;refine BW (CQ [2,1] O (iR t vs hto.nd hto.vp Au hvo.1 hvo.2.2.1 (fun v hv=>by have:=Fs (h3 v hv);simp only[DZ];omega) Ak) ?_);refine Bp [3] O (Az Ba O) fun b7=>?_;refine BC [4,0,1] rfl ?_ ?_<;>intro c
 ·have hce:=c;exact A2 [1] O (M6 Ap O) (DT [0] O (UT O O (P4 O) (⟨O,_,List.nil_sublist _,⟨_,u7 Au h2 h3 h4 hce,O⟩⟩)))
 refine A9 [2,0,1,1] O (Bg [1] [3] O O ⟨⟨(He t vs 0).1,n - 1⟩,ur hz h2 h3 h4 c,O,O⟩)
theorem M3:∀(l:List Tm),(l.length<549755813888)→BL Tryz.prog 154 [.p (.lst (A6 l))] [] (Y3 (fun v=>v) 5 (A6 l)):=by
 intro l h1;refine DJ Tryz.func154 (DT [2] O (EF O O (N7 BT O O) ?_));rintro _ ⟨q,rfl,hq⟩;refine BW (BC [0] rfl ?_ ?_)<;>intro c
 ·refine CK [1] O (A5 (DK (t:=2) (sz:=5) O) (BP (A9 [0] O (Bg [] [0] O O ?_))));rw[show l=[] from List.length_eq_zero_iff.1 (by rw[←A8,hq c];rfl)]
  all_goals exact⟨_,_,rfl,rfl⟩
 refine DT [0] O (P7 O O (MO BT) fun b5 cp=>BW (DT [1] O ?_));refine ET O O (Bh (i:=0) (rows':=A6 l) BT BT Ba O O O O O O (Bd _) Aa (Hl [] l)) fun o cp1=>BW (A9 [1] O (Bg [] [0] O O ⟨_,_,O,O⟩))
theorem eK:∀(m:Nat) (ds:List B8) (n:Int) (t:Tm) (vs:List Tm),(N1 n)→(okB t=true)→(∀v∈vs,okB v=true)→(vs.length<549755813888)→BL Tryz.prog 187 [.ptr m 0,.agg ((BD t).map .p),.p (.lst (A6 vs))] [.box m [.p (.lst (List.map B0 ds)),.p (I n)]] (Oa (fun(r:Tm×Int)=>TV r.1) (fun _=> .p (.iface 178 .unit)) (fun r H'=>H'=[.box m [.p (.lst (List.map B0 ds)),.p (I r.2)]]) (K7 n (CA t vs.reverse 0))):=by
 intro m ds n t vs h1 h2 h3 h4;refine DJ Tryz.func187 (CG [0] O O fun b4=>Bp [0] O (Az Ba O) fun b6=>DT [1] O (NP O O O (.inl ⟨O,O,O⟩) (M3 vs h4) (.inl O) fun o cp=>BW (A2 [2] O (Bi [0] O (.inl ⟨O,O,O⟩) (nH vs o cp Ak) ⟨_,_,O,O,O⟩ As O (.inl O)) ?_)));refine DT [3,2] O (BJ (CV (t:=9) (x:= .vs o (A6 vs.reverse).length cp) (CZ vs (l':=vs.reverse) Av)) (BJ (CV (t:=7) (x:= .vs o (A6 vs.reverse).length cp) (CZ vs (l':=vs.reverse) Av)) (BJ (CV (t:=10) (x:= .vs o (A6 vs.reverse).length cp) (CZ vs (l':=vs.reverse) Av)) (BJ (CV (t:=14) (x:= .vs o (A6 vs.reverse).length cp) (CZ vs (l':=vs.reverse) Av)) (BJ (CM (i:=0) [9,7,10,14] O (DA ⟨O,O,O,O,Aw⟩)) (GR [2] O O O (.inl ⟨O,O,O⟩) (TG m ds n t vs.reverse h1 h2 (bB h3) (by rw[List.length_reverse];exact h4)) ⟨_,_,O,O,O⟩ As (aw (we O) (aw (we O) (aw (we O) (HW)))) (fun _ _ h=>(congrArg List.length h).trans O) ?_ ?_))))))
 rotate_left
 ·intro e _ he;exact⟨O,_,List.nil_sublist _,⟨_,he,O⟩⟩
 rintro⟨z,n2⟩ _ hz rfl;refine BW (A9 [1,0,1] O (Bg [0] [2] O O ⟨⟨z,n2⟩,hz,O,O⟩))
theorem l5:∀(m:Nat) (ds:List B8) (s:Int) (x:IK) (g:Tm) (a:List Tm) (d:B8),(N1 s)→(ds[x.decl.toNat]?=some d)→(0≤x.decl)→(DG d)→(okB g=true)→(a.length<549755813888)→(EL CE d g a s≠ .stuck)→BL Tryz.prog 150 [.ptr m 0,.agg ((GJ x).map .p),.agg ((BD g).map .p),.p (.lst (A6 a))] [.box m [.p (.lst (List.map B0 ds)),.p (I s)]] (Oa (fun(r:Option Tm×Int)=> .tup [TV (r.1.getD BN),.p (.bool r.1.isSome)]) (fun _=> .p (.iface 178 .unit)) (fun r H'=>H'=[.box m [.p (.lst (List.map B0 ds)),.p (I r.2)]]) ((EL CE d g a s).ex)):=by
 intro m ds s x g a d h1 h2 h3 h4 h5 h6 h7;obtain⟨gk,gi,gn,gl,gs⟩:=g;have hgo:=Bu.1 h5;have hgl:=hgo.nd;simp only[Nd,DZ] at hgl;refine DJ Tryz.func150 (CG [0] O O fun b5=>CG [0] O O fun b6=>Bp [0] O (Az Ba O) fun b8=>E2 [1] [15] O (Bb [5,3] O (CF (j:=2) O O O (fun H i hi=>Ax (i:=i) Dz O hi (EO _)) AB Aw (A3 O (fun _=>A0 QV O O Au (HI h2) (DF _)) Aw (A3 O (fun _=>DM Kn O O) Aw (A3 O (fun _=>Dh CN O (Ft _) (A7 _)) Aw (Bb [2,1] O (A3 O (fun _=>BF O O (Qx d.value gl (Bu.1 h4.vl).nd (Bu.1 h4.vl).vp (by have:=Fs h4.vl;omega) hgl.2.1 hgl.2.2.1) O) Aw ?_))))))));refine Bb [3] O (Gf [] O O (Az Ba O) Ap fun b10=>⟨AB,Aw,?_⟩);refine Dj [2,0,1] rfl (BC [2] rfl ?_ ?_)<;>intro c
 ·have hce:=c;refine CK [3,1,0] O (A5 (BE (i:=1) O) (BP (A9 [0] O (Bg [1] [4] O O ⟨⟨none,s⟩,G1 (Jw hce),O,O⟩))))
 have hce:=c;refine DT [1] O (GR [4] O O O (.inl ⟨O,O,O⟩) (PN m ds s h1) ⟨_,_,O,O,O⟩ As (aw (we O) (HW)) (fun _ _ h=>(congrArg List.length h).trans O) ?_ ?_)
 rotate_left
 ·intro e _ he;exact⟨O,_,List.nil_sublist _,⟨_,mn h7 hce he,O⟩⟩
 rintro _ _ hz rfl;refine BW (CQ [2,0] O (Fj ((BU d.value gl).1) a Ak) ?_);refine A9 [2,1,1] O (Bg [1] [4] O O ⟨⟨some (apply (BU d.value gl).1 a),s - 1⟩,G1 (jL h7 hce hz),O,O⟩)
theorem dW:∀(m:Nat) (ds:List B8) (s:Int) (d:B8) (g:Tm) (a:List Tm) (mm:Tm),(N1 s)→(Lb ds)→(DG d)→(okB g=true)→(a.length<549755813888)→(okB mm=true)→(Bv d<a.length)→(ES ds CE d g a mm s≠ .stuck)→BL Tryz.prog 153 [.ptr m 0,.agg ((B0 d).map .p),.agg ((BD g).map .p),.p (.lst (A6 a)),.agg ((BD mm).map .p)] [.box m [.p (.lst (List.map B0 ds)),.p (I s)]] (Oa (fun(r:Option Tm×Int)=> .tup [TV (r.1.getD BN),.p (.bool r.1.isSome)]) (fun _=> .p (.iface 178 .unit)) (fun r H'=>H'=[.box m [.p (.lst (List.map B0 ds)),.p (I r.2)]]) ((ES ds CE d g a mm s).ex)):=by
 intro m ds s d g a mm h1 h2 h3 h4 h5 h6 h7 h8;obtain⟨gk,gi,gn,gl,gs⟩:=g;have hgo:=Bu.1 h4;have hgl:=hgo.nd;simp only[Nd,DZ] at hgl;have hnr:=KI h3;have hcl:=h3.din.cl;have hrl:=h3.din.rl;have hfx:=h3.fx;have hir:=GL h3.din h3.fx;refine DJ Tryz.func153 (CG [0] O O fun b6=>CG [0] O O fun b7=>CG [0] O O fun b9=>Bp [0] O (Az Ba O) fun b10=>A2 [3,1] O (Bi [4] O (.inl ⟨O,O,O⟩) (W0 m ds s mm h2 h6) ⟨_,_,O,O,O⟩ As O (.inl O)) (Bp [5] O (Az Ih O) fun b12=>CJ [4,0,1] 2 [0,3,6,7,10,13,14] 42 (((!((Bo ds mm).2.2.2))||(!((((Bo ds mm).1).name).toList==d.name.toList)))||(decide (((Bo ds mm).2.1:Int)≥((d.recs.rules.length:Nat):Int)))) O O ?_ ?_))
 ·refine Bc [3] 28 rfl rfl ?_ ?_<;>intro g1
  ·exact CT [14] O
  refine A2 [1] O (Ax (i:=0) OB O O (Da _)) (A2 [1] O (Ax (i:=4) OB O O (Da _)) (A2 [0] O (Jq O O) ?_));refine Bc [2] 35 rfl rfl ?_ ?_<;>intro g2
  ·exact CT [7] O
  exact A2 [3] O (Ax (i:=4) JX O O (Co _)) (B9 [0] O O (A8 _) (CT [2] O))
 refine BC [0] rfl ?_ ?_<;>intro c
 ·have hib:=Yx (S:=CE) (h:=(.mk gk gi gn gl gs:Tm)) (a:=a) (s:=s) c;refine CK [3,1,0] O (A5 (BE (i:=1) O) (BP (A9 [0] O (Bg [1] [5] O O ⟨⟨none,s⟩,G1 hib,O,O⟩))))
 obtain⟨hg1,hg2,hg3⟩:=WU c;have hg4:=c.2;have hfl:=JN h2 hg1;refine E2 [0] [12] O (Bb [2] O (CF (j:=4) O O O (fun H i hi=>Ax (i:=i) JX O hi (Co _)) AB Aw (A3 O (fun _=>Bj O) Aw ?_)));obtain⟨x,hx⟩:=A1 (l:=d.recs.rules) (i:=((Bo ds mm).2.1:Int).toNat) Au;have hro:=h3.ru _ (List.mem_of_getElem? hx);refine A3 O (fun _=>A0 BT O O Au (BO hx) (A7 _)) Aw (Bb [3,3] O (A3 O (fun _=>BF O O (Qx x gl (Bu.1 hro).nd (Bu.1 hro).vp (by have:=Fs hro;omega) hgl.2.1 hgl.2.2.1) O) Aw (Bb [3] O (Gf [] O O (Az Ba O) Ap fun b16=>⟨AB,Aw,?_⟩))));refine Dj [2,0,1] rfl (BC [2] rfl ?_ ?_)<;>intro c1
 ·have hce:=c1;refine CK [3,2,0] O (A5 (BE (i:=2) O) (BP (A9 [0] O (Bg [2] [6] O O ⟨⟨none,s⟩,G1 (NA (h:=(.mk gk gi gn gl gs:Tm)) hg1 hg2 hx hce),O,O⟩))))
 have hce:=c1;refine DT [1] O (GR [6] O O O (.inl ⟨O,O,O⟩) (PN m ds s h1) ⟨_,_,O,O,O⟩ As (aw (we O) (HW)) (fun _ _ h=>(congrArg List.length h).trans O) ?_ ?_)
 rotate_left
 ·intro e _ he;exact⟨O,_,List.nil_sublist _,⟨_,pq (g:=(.mk gk gi gn gl gs:Tm)) h8 hg1 hg2 hx hce he,O⟩⟩
 rintro _ _ hz rfl;refine BW (E2 [0] [] O ?_);refine Bb [3,0] O (CF (j:=5) O O O (fun H i hi=>Ax (i:=i) Dz O hi (Cr _)) AB Aw (Bb [2] O (CF (j:=5) O O O (fun H i hi=>Ax (i:=i) GB O hi (B5 _)) AB Aw (A3 O (fun _=>Cx Kb O (List.length_map _)) Aw (A3 O (fun _=>KZ O O Au Au) Aw (A3 O (fun _=>Cn (lo:=0) (hi:=(((d.fixed:Int)+(1:Int):Int)+((d.ctors.length:Nat):Int):Int).toNat) BT O (CX (Bd _)) O ⟨_,pI Au⟩ (Nat.zero_le _) AZ (WD a ((((d.fixed:Int)+(1:Int):Int)+((d.ctors.length:Nat):Int):Int).toNat))) Aw (A3 O (fun _=>BF O O (Fj ((BU x gl).1) (a.take ((((d.fixed:Int)+(1:Int):Int)+((d.ctors.length:Nat):Int):Int).toNat)) (by simp only[DZ,List.length_take];omega)) O) Aw ?_)))))));refine Dj [1,0,1] O (CQ [2,0] O (Fj (apply ((BU x gl).1) (a.take ((((d.fixed:Int)+(1:Int):Int)+((d.ctors.length:Nat):Int):Int).toNat))) ((Bo ds mm).2.2.1) Ak) ?_);refine E2 [1,0,1] [] O (Bb [3,0,5] O (A3 O (fun _=>BF O O (Y9 d h3.din h3.fx) O) Aw (A3 O (fun _=>KZ O O Au Au) Aw (A3 O (fun _=>Cn (lo:=((Bv d:Int)+(1:Int):Int).toNat) BT O (CX (Bd _)) ⟨_,pI Au⟩ O AZ (Nat.le_refl _) (ML a (((Bv d:Int)+(1:Int):Int).toNat))) Aw (A3 O (fun _=>BF O O (Fj (apply (apply ((BU x gl).1) (a.take ((((d.fixed:Int)+(1:Int):Int)+((d.ctors.length:Nat):Int):Int).toNat))) ((Bo ds mm).2.2.1)) (a.drop (((Bv d:Int)+(1:Int):Int).toNat)) Ab) O) Aw (Dj [2,2,1] O (A9 [0] O (Bg [2] [6] O O ⟨⟨some _,s - 1⟩,G1 (qF (g:=(.mk gk gi gn gl gs:Tm)) h8 hg1 hg2 hx hce hz),O,O⟩))))))))
theorem oF:∀(m:Nat) (ds:List B8) (n:Int) (g p q:Tm),(N1 n)→(g.kind=9∨g.kind=10)→(p.kids[(1+g.kind - 9).toNat]?=some q)→BL Tryz.prog 114 [.ptr m 0,.agg ((BD g).map .p),.agg ((BD p).map .p)] [.box m [.p (.lst (List.map B0 ds)),.p (I n)]] (Oa (fun(r:Tm×Int)=>TV r.1) (fun _=> .p (.iface 178 .unit)) (fun r H'=>H'=[.box m [.p (.lst (List.map B0 ds)),.p (I r.2)]]) (K7 n (q,0))):=by
 intro m ds n g p q h1 h2 h3;obtain⟨gk,gi,gn,gl,gs⟩:=g;obtain⟨pk,pi,pn,pl,ps⟩:=p;simp only[Tm.kind,Tm.kids] at h2 h3;refine DJ Tryz.func114 (CG [0] O O fun b4=>CG [0] O O fun b5=>Bp [0] O (Az Ba O) fun b6=>DT [1] O (GR [3] O O O (.inl ⟨O,O,O⟩) (PN m ds n h1) ⟨_,_,O,O,O⟩ As (aw (we O) (HW)) (fun _ _ h=>(congrArg List.length h).trans O) ?_ ?_))
 rotate_left
 ·intro e _ he;exact⟨O,_,List.nil_sublist _,⟨_,jd he,O⟩⟩
 rintro _ _ hz rfl;refine BW (A2 [6,1,2] O (A0 BT O O Au (BO h3) (A7 _)) ?_);refine A9 [2,0,1] O (Bg [0] [3] O O ⟨⟨q,n - 1⟩,wS hz,O,O⟩)
theorem xf (t:Tm):∀c∈BD t,c≠ .nils:=by obtain⟨k,i,n,l,s⟩:=t;simp[BD]
theorem Gg (l:List Tm):∀r∈A6 l,∀c∈r,c≠ .nils:=by
 intro r hr;rw[EW] at hr;obtain⟨t,_,rfl⟩:=List.mem_map.1 hr;exact xf t
theorem qL:∀(be:Nat) (ce:List AV),D7 Tryz.prog 111 [.ptr be 0] (.ret) [.box be ce] (fun H'=>H'=[.box be ce]):=by
 intro be ce;refine GU (ty2:=0) Tryz.func111 O rk (n:=14) O O O O O O (BQ (D5 O (BA O (Fp XD O O O) (Ch O ?_))));refine BX O (fun c=>by cases c) (fun c=>?_);exact Bn ⟨.inl O,O,_,(G7 (is:=[0]) O),O⟩
theorem pR:∀(be:Nat),D7 Tryz.prog 111 [.ptr be 0] (.pan (.p (.iface 178 (.unit)))) [.box be [.p (I 0)]] (fun H'=>H'=[.box be [.p (I 11)]]):=by
 intro be;refine GU (ty2:=0) Tryz.func111 O rk (n:=14) O O O O O O (BQ (D5 O (BA O (Fp XD O O O) (Ch O ?_))));refine BX O (fun c=>?_) (fun c=>by cases c);refine BZ tab 1 [0,0] O (BQ (D5 O (BA O (Yu Ap O) (BS tab 3 [] O (C8 O (Az wH O) fun b2=>BA O (Sy uu O O) (BK tab 1 [] O (BZ tab 2 [] O ?_)))))));refine BX O (fun c1=>by cases c1) (fun c1=>?_);exact Bn ⟨.inl O,O,_,(G7 (is:=[1]) O),O⟩
theorem ot:∀{α:Type}(x:Except Int α) (a:α) (hx:x= .ok a) (cn:α→Int) (G:α→List A4) (fid:Nat) (caps:List AV) (T:List A4) (ds:List B8) (hf:∀m,BL Tryz.prog fid ([.ptr m 0]++caps) (.box m [.p (.lst (List.map B0 ds)),.p (I 20000)]::T) (Oa (fun _=> .tup []) (fun _=> .p (.iface 178 .unit)) (fun a H'=>H'= .box m [.p (.lst (List.map B0 ds)),.p (I (cn a))]::G a) x)),BL Tryz.prog 65 [.p (.lst (List.map B0 ds)),.fn (.func fid) [] caps] T (Gh (.p (I 0)) (G a)):=by
 intro α x a hx cn G fid caps T ds hf;refine El Tryz.func65 O wK (n:=11) O O (BQ (C8 O (Az bA O) fun b4=>Ch O (BQ (BA O (EP O O) (LL O O O O (Ch O (BQ (BS tab 3 [] O (C8 O (Dl O) fun b9=>IN (List.Perm.swap _ _ _) ?_)))))))));refine JF [_] O O O (.inr O) (hf b9) (Ds _) ?_ ?_
 rotate_left
 ·rintro v T2 ⟨e2,h1,_⟩;rw[hx] at h1;cases h1
 rintro v T2 ⟨a2,h1,rfl,rfl⟩;rw[hx] at h1;cases h1;refine Ch O (BZ tab 1 [0,0] O (CB ⟨_,[_],_,O,List.Perm.refl _,D7.eq (qL b4 _) ?_⟩));refine⟨_,_,⟨_,_,O,(GD (i:=0) Qz O O),O⟩,(Es [] [_,_] O),?_⟩
 all_goals exact⟨rfl,rfl⟩
theorem mQ:∀{α:Type}(x:Except Int α) (e:Int) (hx:x= .error e) (cn:α→Int) (G:α→List A4) (fid:Nat) (caps:List AV) (T:List A4) (ds:List B8) (hf:∀m,BL Tryz.prog fid ([.ptr m 0]++caps) (.box m [.p (.lst (List.map B0 ds)),.p (I 20000)]::T) (Oa (fun _=> .tup []) (fun _=> .p (.iface 178 .unit)) (fun a H'=>H'= .box m [.p (.lst (List.map B0 ds)),.p (I (cn a))]::G a) x)),BL Tryz.prog 65 [.p (.lst (List.map B0 ds)),.fn (.func fid) [] caps] T (Gh (.p (I 11)) []):=by
 intro α x e hx cn G fid caps T ds hf;refine El Tryz.func65 O wK (n:=11) O O (BQ (C8 O (Az bA O) fun b4=>Ch O (BQ (BA O (EP O O) (LL O O O O (Ch O (BQ (BS tab 3 [] O (C8 O (Dl O) fun b9=>IN (List.Perm.swap _ _ _) ?_)))))))));refine JF [_] O O O (.inr O) (hf b9) (Ds _) ?_ ?_
 ·rintro v T2 ⟨a2,h1,_⟩;rw[hx] at h1;cases h1
 rintro v T2 ⟨e2,h1,rfl⟩;refine⟨_,_,_,O,LD (is:=[0]) _ As ⟨_,_,O,O,O⟩,D7.eq (pR b4) ?_⟩;refine⟨_,[],⟨_,_,O,(GD (i:=0) Qz O O),O⟩,(List.nil_sublist _),?_⟩;exact⟨O,O⟩
end Go.Proofs.YtldfmjoncbjldaaGreat
namespace Go.Eu
open Go.Abs
structure Lt (c:Dm):Prop where
 ov:c.over=false
 lm:c.limit=1000
 s0:0≤c.steps
 s1:c.steps≤1000
 n0:0≤c.nodes
 n1:c.nodes≤2000
theorem lS:Lt Gz:=⟨rfl,rfl,by decide,by decide,by decide,by decide⟩
theorem La:kE DI (fun a b=>b.over=false→a.over=false):=by
 refine⟨fun s h=>h,fun h1 h2 h=>h1 (h2 h),fun h hb=>?_⟩;simp only[DI,Option.some.injEq] at h;subst h;simp only[Dm.result,Dm.form,Bool.or_eq_false_iff] at hb;exact hb.1
theorem sM {c:Dm}{t:Tm}{e:Int}(h:Lt c) (ho:okB t=true) (hv:(c.result t e).over=false):e=0∧Lt (c.result t e)∧(c.result t e).steps=c.steps+1∧(c.result t e).nodes=c.nodes+size t:=by
 have hs:=Fs ho;have h1:=h.s0;have h2:=h.s1;have h3:=h.n0;have h4:=h.n1;have h5:=h.lm;have hw:wr (c.steps+1)=c.steps+1:=EK (by unfold JZ;omega);have hz:FF t=size t:=PZ Au;have hw2:wr (c.nodes+size t)=c.nodes+size t:=EK (by unfold JZ;omega);have hw3:wr (2*1000)=2000:=EK (by unfold JZ;omega);have hv':=hv;simp only[Dm.result,Dm.form,hw,hz,hw2,h5,hw3,Bool.or_eq_false_iff,decide_eq_false_iff_not,bne_eq_false_iff_eq] at hv';have hst:(c.result t e).steps=c.steps+1:=by simp only[Dm.result,Dm.form,hw]
 have hnd:(c.result t e).nodes=c.nodes+size t:=by simp only[Dm.result,Dm.form,hz,hw2]
 exact⟨by omega,⟨hv,by simp only[Dm.result,Dm.form,h5],by omega,by omega,by omega,by omega⟩,hst,hnd⟩
theorem K5 {α:Type}{c:Dm}{x:Tm×Int}{k:Tm→Dm→Out (α×Dm)}{k':Tm→Int→Out (α×Int)}{q:α}{c':Dm}(hL:Lt c) (hk:∀t c1 q c2,k t c1= .ok (q,c2)→c2.over=false→c1.over=false) (hq:DI.put c x k= .ok (q,c')) (hv:c'.over=false) :
  okB x.1=true∧Lt (c.result x.1 x.2)∧(c.result x.1 x.2).steps=c.steps+1∧(c.result x.1 x.2).nodes=c.nodes+size x.1∧k x.1 (c.result x.1 x.2)= .ok (q,c')∧∀l:Int,1000 - c.steps≤l→CE.put l x k'=k' x.1 (l - 1):=by
 obtain⟨h1,h2⟩:=IL (h:=(by rw[hq];simp));rw[h2] at hq;obtain⟨h3,h4,h5,h6⟩:=sM hL h1 (hk _ _ _ _ hq hv);refine⟨h1,h4,h5,h6,hq,fun l hl=>?_⟩;have:=h4.s1;unfold Sys.put;rw[if_pos h1];simp only[CE];rw[if_neg Au]
section
variable {E:List B8}
structure aV (c c':Dm) (z z':Nat):Prop where
 lt:Lt c'
 st:c.steps≤c'.steps
 nd:c.nodes≤c'.nodes
 sz:(z':Int)≤z+(c'.nodes - c.nodes)
def SW (n:Nat) (W:Dm→Tm→Out (Tm×Dm)) (V:Int→Tm→Out (Tm×Int)):Prop:=∀c t r c',Lt c→W c t= .ok (r,c')→c'.over=false→(size t:Int)≤30000+c.nodes →
 aV c c' (size t) (size r)∧∀l:Int,1000 - c.steps≤l→V l t= .ok (r,l - (c'.steps - c.steps))
variable {n:Nat}{W:Dm→Tm→Out (Tm×Dm)}{V:Int→Tm→Out (Tm×Int)}
theorem WZ (hW:SW n W V) (hO:∀c t r c',W c t= .ok (r,c')→c'.over=false→c.over=false):∀(k:Nat) (t:FV) (vs:List Tm) (la:Tm) (c c':Dm) (q:Option (Tm×List Tm)×Tm),Lt c→EA E DI W k t vs la c= .ok (q,c')→c'.over=false→(∀v∈vs,(size v:Int)≤30000+c.nodes)→(size la:Int)≤30000+c.nodes →
  aV c c' 0 0∧(q.1=none→(size q.2:Int)≤30000+c'.nodes)∧∀l:Int,1000 - c.steps≤l→EA E CE V k t vs la l= .ok (q,l - (c'.steps - c.steps))
 | 0,t,vs,la,c,c',q,hL,h,hv,hz,hla=>by rw[EA] at h;cases h
 | k+1,t,vs,la,c,c',q,hL,h,hv,hz,hla=>by
  have self:aV c c 0 0:=⟨hL,Int.le_refl _,Int.le_refl _,by simp⟩;by_cases hk:t.kind=1
  ·by_cases hb:t.var<0∨t.var≥(vs.length:Int)
   ·have hb1:t.var<0∨t.var≥(vs.length:Int)∨DI.over c=true:=by rcases hb with h | h;exact .inl h;exact .inr (.inl h)
    rw[KN hk hb1] at h;cases h;refine⟨self,fun _=>hla,fun l hl=>?_⟩;rw[KN hk (by rcases hb with h | h;exact .inl h;exact .inr (.inl h)),Int.sub_self,Int.sub_zero]
   have hb1:¬(t.var<0∨t.var≥(vs.length:Int)∨DI.over c=true):=by
    have:DI.over c=false:=hL.ov;rw[this];simp;omega
   have hb2:∀l,¬(t.var<0∨t.var≥(vs.length:Int)∨CE.over l=true):=fun l=>by simp[CE];omega
   have hlt:t.var.toNat<vs.length:=by omega
   have hx:=List.getElem?_eq_getElem hlt;have hxm:=List.getElem_mem hlt;rw[Lp hk hb1 hx] at h;obtain⟨⟨r,c1⟩,h1,h2,h3⟩:=HK h;have hv1:c1.over=false:=by
    cases hc:Ce E r with
    | none=>rw[G5 hc] at h3;cases h3;exact hv
    | some p =>
     obtain⟨d,j,f⟩:=p;cases hbr:Cl (EJ d j).name t.branches with
     | none=>rw[JJ hc hbr] at h3;cases h3;exact hv
     | some t' =>
      rw[JH hc hbr] at h3;exact UO La (fun s t q e=>by obtain⟨r',c''⟩:=q;exact hO _ _ _ _ e) _ _ _ _ _ _ h3 hv
   obtain⟨p1,p2⟩:=hW _ _ _ _ hL h1 hv1 (hz _ hxm);have q1:=p1.st;have q2:=p1.nd;have q3:=p1.sz;have q4:=hz _ hxm;have hr:(size r:Int)≤30000+c1.nodes:=by omega
   have hone:aV c c1 0 0:=⟨p1.lt,p1.st,p1.nd,by simp;omega⟩;have hg:∀l:Int,1000 - c.steps≤l→EA E CE V (k+1) t vs la l=RH E CE V k t vs (r,l - (c1.steps - c.steps)):=fun l hl=>by
    rw[Lp hk (hb2 l) hx,p2 l hl];simp only[Out.chk,Out.bind];rw[if_pos h2]
   cases hc:Ce E r with
   | none =>
    rw[G5 hc] at h3;cases h3;exact⟨hone,fun _=>hr,fun l hl=>by rw[hg l hl,G5 hc]⟩
   | some p =>
    obtain⟨d,j,f⟩:=p;cases hbr:Cl (EJ d j).name t.branches with
    | none =>
     rw[JJ hc hbr] at h3;cases h3;exact⟨hone,fun _=>hr,fun l hl=>by rw[hg l hl,JJ hc hbr]⟩
    | some t' =>
     rw[JH hc hbr] at h3;obtain⟨hf,_⟩:=JO hc h2;obtain⟨s1,s2,s3⟩:=WZ hW hO k t' (vs++f) r c1 c' q p1.lt h3 hv (fun v hm=>by
      rcases List.mem_append.1 hm with hm | hm
      ·have:=hz v hm;omega
      have:=(hf v hm).2;omega) hr
     have e1:=s1.st;have e2:=s1.nd;refine⟨⟨s1.lt,by omega,by omega,by simp;omega⟩,s2,fun l hl=>?_⟩;rw[hg l hl,JH hc hbr];have:=s3 (l - (c1.steps - c.steps)) Au;simp only;rw[this];congr 2;omega
  rw[Im hk] at h;cases h;exact⟨self,(fun e=>by cases e),fun l hl=>by rw[Im hk,Int.sub_self,Int.sub_zero]⟩
structure ie (c c':Dm) (z:Nat) (q:Option Tm):Prop where
 lt:Lt c'
 st:c.steps≤c'.steps
 nd:c.nodes≤c'.nodes
 sz:∀x,q=some x→(size x:Int)≤z+(c'.nodes - c.nodes)
theorem iM {d:B8}{g m:Tm}{a:List Tm}{c c':Dm}{q:Option Tm}(hL:Lt c) (h:ES E DI d g a m c= .ok (q,c')) (hv:c'.over=false):ie c c' (BB a+a.length) q∧∀l:Int,1000 - c.steps≤l→ES E CE d g a m l= .ok (q,l - (c'.steps - c.steps)):=by
 have self:ie c c (BB a+a.length) none:=⟨hL,Int.le_refl _,Int.le_refl _,fun x e=>by cases e⟩;cases hc:Ce E m with
 | none=>rw[Ng hc] at h;cases h;exact⟨self,fun l hl=>by rw[Ng hc,Int.sub_self,Int.sub_zero]⟩
 | some p =>
  obtain⟨e,j,f⟩:=p;by_cases hn:e.name≠d.name∨j≥(d.recs.rules.length:Int)
  ·rw[Rz hc hn] at h;cases h;exact⟨self,fun l hl=>by rw[Rz hc hn,Int.sub_self,Int.sub_zero]⟩
  have hlo:=(Fv hc).lo;have hlt:j.toNat<d.recs.rules.length:=by omega
  have hr:=List.getElem?_eq_getElem hlt;by_cases he:(BU d.recs.rules[j.toNat] g.levels).2=0
  ·rw[Nw hc hn hr he] at h;obtain⟨h1,h2,h3,h4,h5,h6⟩:=K5 hL (fun t c1 q c2 e hv=>by cases e;exact hv) h hv (k':=fun t s'=> .ok (some (apply t (a.drop (Bv d+1).toNat)),s'));simp only at h3 h4 h5;cases h5;have u:=Cm (a.drop (Bv d+1).toNat) (apply (apply (BU d.recs.rules[j.toNat] g.levels).1 (a.take (d.fixed+1+d.ctors.length).toNat)) f);have u2:=DE a (Bv d+1).toNat;have u3:(a.drop (Bv d+1).toNat).length≤a.length:=by rw[List.length_drop];omega
   refine⟨⟨h2,by omega,by omega,fun x e=>?_⟩,fun l hl=>?_⟩
   ·cases e;have:((BB a+a.length:Nat):Int)=BB a+a.length:=by omega
    omega
   rw[Nw hc hn hr he,h6 l hl];congr 2;omega
  rw[NA hc hn hr he] at h;cases h;exact⟨self,fun l hl=>by rw[NA hc hn hr he,Int.sub_self,Int.sub_zero]⟩
theorem cH {d:B8}{g:Tm}{a:List Tm}{c c':Dm}{q:Option Tm}(hL:Lt c) (h:EL DI d g a c= .ok (q,c')) (hv:c'.over=false):ie c c' (BB a+a.length) q∧∀l:Int,1000 - c.steps≤l→EL CE d g a l= .ok (q,l - (c'.steps - c.steps)):=by
 by_cases he:(BU d.value g.levels).2=0
 ·rw[KC he] at h;obtain⟨h1,h2,h3,h4,h5,h6⟩:=K5 hL (fun t c1 q c2 e hv=>by cases e;exact hv) h hv (k':=fun t s'=> .ok (some (apply t a),s'));simp only at h3 h4 h5;cases h5;have u:=Cm a (BU d.value g.levels).1;refine⟨⟨h2,by omega,by omega,fun x e=>by cases e;omega⟩,fun l hl=>?_⟩;rw[KC he,h6 l hl];congr 2;omega
 rw[Jw he] at h;cases h;exact⟨⟨hL,Int.le_refl _,Int.le_refl _,fun x e=>by cases e⟩,fun l hl=>by rw[Jw he,Int.sub_self,Int.sub_zero]⟩
theorem hZ {g b:Tm}{vs a:List Tm}{c c':Dm}{q:Option Tm}(hL:Lt c) (h:FE DI g b vs a c= .ok (q,c')) (hv:c'.over=false):ie c c' (BB a+a.length) q∧∀l:Int,1000 - c.steps≤l→FE CE g b vs a l= .ok (q,l - (c'.steps - c.steps)):=by
 by_cases he:(BU b g.levels).2=0
 ·have hg:∀{σ:Type} (S:Sys σ) (s:σ),FE S g b vs a s=if okB (BU b g.levels).1=false∨vs.all okB=false∨1125899906842624≤BB vs then .stuck else S.put s (CA (BU b g.levels).1 vs.reverse 0) fun t s'=> .ok (some (apply t a),s'):=fun S s=>by rw[FE,if_neg Au]
  rw[hg] at h;split at h
  ·cases h
  rename_i hn;obtain⟨h1,h2,h3,h4,h5,h6⟩:=K5 hL (fun t c1 q c2 e hv=>by cases e;exact hv) h hv (k':=fun t s'=> .ok (some (apply t a),s'));cases h5;have u:=Cm a (CA (BU b g.levels).1 vs.reverse 0).1;refine⟨⟨h2,by omega,by omega,fun x e=>by cases e;omega⟩,fun l hl=>?_⟩;rw[hg,if_neg hn,h6 l hl];congr 2;omega
 rw[J0 he] at h;cases h;exact⟨⟨hL,Int.le_refl _,Int.le_refl _,fun x e=>by cases e⟩,fun l hl=>by rw[J0 he,Int.sub_self,Int.sub_zero]⟩
end
section
variable {E:List B8}{n:Nat}
theorem SI {c:Dm}{z:Nat}(hL:Lt c):ie c c z none:=⟨hL,Int.le_refl _,Int.le_refl _,fun x e=>by cases e⟩
theorem ad (hE:Lb E) {W:Dm→Tm→Out (Tm×Dm)}{V:Int→Tm→Out (Tm×Int)}(hW:SW n W V) (hO:∀c t r c',W c t= .ok (r,c')→c'.over=false→c.over=false) {g:Tm}{a:List Tm}{c c':Dm}{q:Option Tm}(hL:Lt c) (h:Dc E DI W n g a c= .ok (q,c')) (hv:c'.over=false) (hz:(BB a+a.length:Int)≤30000+c.nodes) (h1z:1≤30000+c.nodes) :
  ie c c' (BB a+a.length) q∧∀l:Int,1000 - c.steps≤l→Dc E CE V n g a l= .ok (q,l - (c'.steps - c.steps)):=by
 cases hu:U1 E g with
 | false=>rw[MF hu] at h;cases h;exact⟨SI hL,fun l hl=>by rw[MF hu,Int.sub_self,Int.sub_zero]⟩
 | true =>
  obtain⟨i,d,e1,e2,hd,e4⟩:=KF hu;have hg:=hE.all d hd;have hnr:=KI hg;by_cases k1:(BY E g.name).1.kind=1
  ·rw[Jx hu e4 k1] at h;obtain⟨s1,s2⟩:=cH hL h hv;exact⟨s1,fun l hl=>by rw[Jx hu e4 k1];exact s2 l hl⟩
  by_cases k5:(BY E g.name).1.kind=5
  ·rw[Jr hu e4 k5] at h;by_cases hl:(a.length:Int)≤Bv d
   ·rw[Rt hl] at h;cases h;exact⟨SI hL,fun l hl2=>by rw[Jr hu e4 k5,Rt hl,Int.sub_self,Int.sub_zero]⟩
   have hlt:(Bv d).toNat<a.length:=by omega
   have hy:=List.getElem?_eq_getElem hlt;have hys:=FI (List.getElem_mem hlt);rw[XU hl hy] at h;obtain⟨⟨r,c1⟩,h1,h2,h3⟩:=HK h;have hv1:c1.over=false:=Zx La h3 hv;obtain⟨p1,p2⟩:=hW _ _ _ _ hL h1 hv1 Au;obtain⟨s1,s2⟩:=iM p1.lt h3 hv;have a1:=p1.st;have a2:=p1.nd;have a3:=s1.st;have a4:=s1.nd;refine⟨⟨s1.lt,by omega,by omega,fun x e=>by have:=s1.sz x e;omega⟩,fun l hl2=>?_⟩;rw[Jr hu e4 k5,XU hl hy,p2 l hl2];simp only[Out.chk,Out.bind];rw[if_pos h2,s2 _ Au];congr 2;omega
  by_cases k6:(BY E g.name).1.kind=6
  ·obtain⟨k,f,h4,h5⟩:=e2.func k6;have hff:d.funs[(BY E g.name).1.item.toNat]?=some f:=by rw[h5];simpa using h4
   rw[Il hu e4 k6 hff] at h;by_cases hl:(a.length:Int)<f.arity
   ·rw[NY hl] at h;cases h;exact⟨SI hL,fun l hl2=>by rw[Il hu e4 k6 hff,NY hl,Int.sub_self,Int.sub_zero]⟩
   rw[Mz hl] at h;obtain⟨⟨lq,c1⟩,h1,h2⟩:=D8 h;have hts:=DE a f.arity.toNat;have hdl:(a.drop f.arity.toNat).length≤a.length:=by rw[List.length_drop];omega
   have hz0:size BN=1:=rfl;have hv1:c1.over=false:=by
    cases ho:c1.over with
    | false=>rfl
    | true=>rw[Lo (.inr ho)] at h2;cases h2;rw[ho] at hv;cases hv
   obtain⟨p1,p2,p3⟩:=WZ hW hO n f.tree (a.take f.arity.toNat) BN c c1 lq hL h1 hv1 (fun v hm=>by have:=FI (List.mem_of_mem_take hm);omega) Au;have a1:=p1.st;have a2:=p1.nd;cases hs:lq.1.isSome with
   | false =>
    rw[Lo (.inl hs)] at h2;cases h2;refine⟨⟨p1.lt,a1,a2,fun x e=>by cases e⟩,fun l hl2=>?_⟩;rw[Il hu e4 k6 hff,Mz hl,p3 l hl2];simp only[Out.bind];rw[Lo (.inl hs)]
   | true =>
    rw[Od hs hv1] at h2;obtain⟨s1,s2⟩:=hZ p1.lt h2 hv;have a3:=s1.st;have a4:=s1.nd;refine⟨⟨s1.lt,by omega,by omega,fun x e=>by have:=s1.sz x e;omega⟩,fun l hl2=>?_⟩;rw[Il hu e4 k6 hff,Mz hl,p3 l hl2];simp only[Out.bind];rw[Od hs rfl,s2 _ Au];congr 2;omega
  rw[PB hu k1 k5 k6] at h;cases h;exact⟨SI hL,fun l hl=>by rw[PB hu k1 k5 k6,Int.sub_self,Int.sub_zero]⟩
theorem Fa {n:Nat}{c c':Dm}{t r:Tm}(h:FM E DI n c t= .ok (r,c')) (hv:c'.over=false):c.over=false:=Wp La n c t _ h hv
theorem dT (hE:Lb E):∀n,SW n (FM E DI n) (FM E CE n)
 | 0=>fun c t r c' hL h _ _=>by rw[FM] at h;cases h
 | n+1=>fun c t r c' hL h hv hz=>by
  have ih:=dT hE n;have ho:=bD h Av;have hov:DI.over c=false:=hL.ov;have hov2:∀l,CE.over l=false:=fun _=>rfl;have hmr:DI.many (Ay t).2.length=false:=rfl;have hss:=ER t;have hsp:=size_pos (Ay t).1;have n0:=hL.n0;have n1:=hL.n1;have hmp:CE.many (Ay t).2.length=false:=by simp only[CE];exact decide_eq_false Au
  obtain⟨oh,oa⟩:=DB ho;have self:aV c c (size t) (size t):=⟨hL,Int.le_refl _,Int.le_refl _,by omega⟩
  -- what follows a contraction
  have cont:∀(x:Tm) (c1:Dm) (k':Int→Out (Tm×Int)),Lt c1→c.steps+1≤c1.steps→c.nodes≤c1.nodes→(size x:Int)≤size t+(c1.nodes - c.nodes)→FM E DI n c1 x= .ok (r,c')→(∀l:Int,1000 - c.steps≤l→k' l=FM E CE n (l - (c1.steps - c.steps)) x)→aV c c' (size t) (size r)∧∀l:Int,1000 - c.steps≤l→k' l= .ok (r,l - (c'.steps - c.steps)):=by
   intro x c1 k' g1 g2 g3 g4 g5 g6;obtain⟨p1,p2⟩:=ih _ _ _ _ g1 g5 hv Au;have a1:=p1.st;have a2:=p1.nd;have a3:=p1.sz;refine⟨⟨p1.lt,by omega,by omega,by omega⟩,fun l hl=>?_⟩;rw[g6 l hl,p2 _ Au];congr 2;omega
  by_cases k5:(Ay t).1.kind=5
  ·by_cases hl:(Ay t).2.length=0
   ·rw[Lf ho hov hmr k5 hl] at h;cases h;exact⟨self,fun l _=>by rw[Lf ho (hov2 l) hmp k5 hl,Int.sub_self,Int.sub_zero]⟩
   obtain⟨b,hb,_⟩:=ED oh (i:=1) (by rw[k5];decide);rw[S1 ho hov hmr k5 hl hb] at h;obtain⟨h1,h2,h3,h4,h5,h6⟩:=K5 hL (fun t c1 q c2 e hv=>Fa e hv) h hv (k':=fun x s'=>FM E CE n s' (apply x ((Ay t).2.drop 1)));have u:=Cm ((Ay t).2.drop 1) (CA b ((Ay t).2.take 1) 0).1;have u2:=DE (Ay t).2 1;have u3:((Ay t).2.drop 1).length≤(Ay t).2.length:=by rw[List.length_drop];omega
   refine cont _ _ _ h2 Au Au Au h5 fun l hl2=>?_;rw[S1 ho (hov2 l) hmp k5 hl hb,h6 l hl2];congr 1;omega
  by_cases k11:(Ay t).1.kind=11
  ·obtain⟨v,hvk,_⟩:=ED oh (i:=1) (by rw[k11];decide);obtain⟨b,hb,_⟩:=ED oh (i:=2) (by rw[k11];decide);rw[Tj ho hov hmr k11 hvk hb] at h;obtain⟨h1,h2,h3,h4,h5,h6⟩:=K5 hL (fun t c1 q c2 e hv=>Fa e hv) h hv (k':=fun x s'=>FM E CE n s' (apply x (Ay t).2));have u:=Cm (Ay t).2 (CA b [v] 0).1;refine cont _ _ _ h2 Au Au Au h5 fun l hl2=>?_;rw[Tj ho (hov2 l) hmp k11 hvk hb,h6 l hl2];congr 1;omega
  by_cases k9:(Ay t).1.kind=9∨(Ay t).1.kind=10
  ·obtain⟨p,hpk,op,sp⟩:=ED oh (i:=0) (by rcases k9 with h | h<;>rw[h]<;>decide);rw[L5 ho hov hmr k9 hpk] at h;obtain⟨⟨r1,c1⟩,h1,h2,h3⟩:=HK h;have hg:∀l:Int,1000 - c.steps≤l→c1.over=false→FM E CE (n+1) l t=RG E CE n (Ay t).1 (Ay t).2 (r1,l - (c1.steps - c.steps)):=fun l hl hv1=>by
    obtain⟨p1,p2⟩:=ih _ _ _ _ hL h1 hv1 Au;rw[L5 ho (hov2 l) hmp k9 hpk,p2 l hl];simp only[Out.chk,Out.bind];rw[if_pos h2]
   by_cases k8:r1.kind=8
   ·have har:arity 8=3:=rfl;obtain⟨y,hy,oy,sy⟩:=ED h2 (i:=(1+(Ay t).1.kind - 9).toNat) (by show _<arity r1.kind;rw[k8,har];omega);rw[PT (r:=(r1,c1)) k8 hy] at h3;have hv1:c1.over=false:=by
     have:=L3 La (s:=c1) (fun t c1 q e hv=>Fa e hv) h3;exact this hv
    obtain⟨p1,p2⟩:=ih _ _ _ _ hL h1 hv1 Au;obtain⟨q1,q2,q3,q4,q5,q6⟩:=K5 p1.lt (fun t c1 q c2 e hv=>Fa e hv) h3 hv (k':=fun x s'=>FM E CE n s' (apply x (Ay t).2));have u:=Cm (Ay t).2 y;have a1:=p1.st;have a2:=p1.nd;have a3:=p1.sz;simp only at q3 q4 q5 sy;refine cont (apply y (Ay t).2) (c1.result y 0) _ q2 Au Au Au q5 fun l hl2=>?_;rw[hg l hl2 hv1,PT (r:=(r1,l - (c1.steps - c.steps))) k8 hy,q6 _ Au];congr 1;simp only;omega
   rw[KP (r:=(r1,c1)) k8] at h3;cases h3;obtain⟨p1,p2⟩:=ih _ _ _ _ hL h1 hv Au;have a1:=p1.st;have a2:=p1.nd;have a3:=p1.sz;have u:=Cm (Ay t).2 (Ha (Ay t).1.kind r1);have u2:size (Ha (Ay t).1.kind r1)=1+size r1:=by simp only[Ha,size,BB];omega
   refine⟨⟨p1.lt,a1,a2,by simp only;omega⟩,fun l hl=>?_⟩;rw[hg l hl hv,KP (r:=(r1,l - (c1.steps - c.steps))) k8]
  by_cases k3:(Ay t).1.kind=3
  ·rw[JG ho hov hmr k3] at h;obtain⟨⟨q,c1⟩,h1,h2⟩:=D8 h;have hv1:c1.over=false:=by
    cases hq:q.isSome with
    | false=>rw[TB hq] at h2;cases h2;exact hv
    | true=>rw[S3 hq] at h2;exact Fa h2 hv
   obtain⟨s1,s2⟩:=ad hE ih (fun c t r c' e hv=>Fa e hv) hL h1 hv1 Au Au;have a1:=s1.st;have a2:=s1.nd;cases hq:q.isSome with
   | false =>
    rw[TB hq] at h2;cases h2;refine⟨⟨s1.lt,a1,a2,by omega⟩,fun l hl=>?_⟩;rw[JG ho (hov2 l) hmp k3,s2 l hl];simp only[Out.bind];rw[TB hq]
   | true =>
    rw[S3 hq] at h2;obtain⟨x,rfl⟩:=Option.isSome_iff_exists.1 hq;have a3:=s1.sz x rfl;simp only[Option.getD_some] at h2;obtain⟨p1,p2⟩:=ih _ _ _ _ s1.lt h2 hv Au;have b1:=p1.st;have b2:=p1.nd;have b3:=p1.sz;refine⟨⟨p1.lt,by omega,by omega,by omega⟩,fun l hl=>?_⟩;rw[JG ho (hov2 l) hmp k3,s2 l hl];simp only[Out.bind];rw[S3 rfl];simp only[Option.getD_some];rw[p2 _ Au];congr 2;omega
  have k9a:(Ay t).1.kind≠9:=fun e=>k9 (.inl e);have k9b:(Ay t).1.kind≠10:=fun e=>k9 (.inr e);rw[Ua ho hov hmr k5 k11 k9a k9b k3] at h;cases h;exact⟨self,fun l _=>by rw[Ua ho (hov2 l) hmp k5 k11 k9a k9b k3,Int.sub_self,Int.sub_zero]⟩
end
section
variable {E:List B8}
end
section
variable {E:List B8}
end
section
variable {E:List B8}
def LW (W:Int→Tm→Out (Tm×Int)):Prop:=∀l t r l' k,0≤k→W l t= .ok (r,l')→W (l+k) t= .ok (r,l'+k)
theorem K2 {α:Type}{l l' k:Int}{x:Tm×Int}{f:Tm→Int→Out (α×Int)}{q:α}(hk:0≤k) (hf:∀t s q s',f t s= .ok (q,s')→f t (s+k)= .ok (q,s'+k)) (h:CE.put l x f= .ok (q,l')):CE.put (l+k) x f= .ok (q,l'+k):=by
 unfold Sys.put at h ⊢;split at h
 ·rename_i ho;rw[if_pos ho];simp only[CE] at h ⊢;by_cases c:l - 1<0∨x.2≠0
  ·rw[if_pos c] at h;cases h
  rw[if_neg c] at h;rw[if_neg Au];have:=hf _ _ _ _ h;rw[show l+k - 1=l - 1+k by omega];exact this
 cases h
theorem Q1 {f:Tm→Tm}{k:Int}:∀(t:Tm) (s:Int) (q:Option Tm) (s':Int),(Out.ok (some (f t),s):Out (Option Tm×Int))= .ok (q,s')→(Out.ok (some (f t),s+k):Out (Option Tm×Int))= .ok (q,s'+k):=fun t s q s' h=>by cases h;rfl
theorem WT {W:Int→Tm→Out (Tm×Int)}(hW:LW W) {k:Int}(hk:0≤k):∀(m:Nat) (t:FV) (vs:List Tm) (la:Tm) (l l':Int) (q:Option (Tm×List Tm)×Tm),EA E CE W m t vs la l= .ok (q,l')→EA E CE W m t vs la (l+k)= .ok (q,l'+k)
 | 0,t,vs,la,l,l',q,h=>by rw[EA] at h;cases h
 | m+1,t,vs,la,l,l',q,h=>by
  by_cases h1:t.kind=1
  ·by_cases hb:t.var<0∨t.var≥(vs.length:Int)
   ·rw[KN h1 (by rcases hb with h | h;exact .inl h;exact .inr (.inl h))] at h ⊢;cases h;rfl
   have hb2:∀l,¬(t.var<0∨t.var≥(vs.length:Int)∨CE.over l=true):=fun l=>by simp[CE];omega
   have hx:=List.getElem?_eq_getElem (show t.var.toNat<vs.length by omega);rw[Lp h1 (hb2 _) hx] at h ⊢;obtain⟨⟨r,l1⟩,e1,e2,e3⟩:=HK h;rw[hW _ _ _ _ k hk e1];simp only[Out.chk,Out.bind];rw[if_pos e2];cases hc:Ce E r with
   | none=>rw[G5 hc] at e3 ⊢;cases e3;rfl
   | some p =>
    obtain⟨d,j,f⟩:=p;cases hbr:Cl (EJ d j).name t.branches with
    | none=>rw[JJ hc hbr] at e3 ⊢;cases e3;rfl
    | some t'=>rw[JH hc hbr] at e3 ⊢;exact WT hW hk m t' _ _ _ _ _ e3
  rw[Im h1] at h ⊢;cases h;rfl
theorem iC {d:B8}{g m:Tm}{a:List Tm}{l l' k:Int}{q:Option Tm}(hk:0≤k) (h:ES E CE d g a m l= .ok (q,l')):ES E CE d g a m (l+k)= .ok (q,l'+k):=by
 unfold ES at h ⊢;split at h
 ·cases h;rfl
 split at h
 ·rename_i c;rw[if_pos c];cases h;rfl
 rename_i c;rw[if_neg c];split at h
 ·rename_i c2;rw[if_pos c2];cases h;rfl
 rename_i c2;rw[if_neg c2];exact K2 hk (Q1 (f:=fun t=>apply t (a.drop (Bv d+1).toNat))) h
theorem iE {g b:Tm}{vs a:List Tm}{l l' k:Int}{q:Option Tm}(hk:0≤k) (h:FE CE g b vs a l= .ok (q,l')):FE CE g b vs a (l+k)= .ok (q,l'+k):=by
 unfold FE at h ⊢;split at h
 ·rename_i c;rw[if_pos c];cases h;rfl
 rename_i c;rw[if_neg c];split at h
 ·cases h
 rename_i c2;rw[if_neg c2];exact K2 hk (Q1 (f:=fun t=>apply t a)) h
theorem cw {d:B8}{g:Tm}{a:List Tm}{l l' k:Int}{q:Option Tm}(hk:0≤k) (h:EL CE d g a l= .ok (q,l')):EL CE d g a (l+k)= .ok (q,l'+k):=by
 unfold EL at h ⊢;split at h
 ·rename_i c;rw[if_pos c];cases h;rfl
 rename_i c;rw[if_neg c];exact K2 hk (Q1 (f:=fun t=>apply t a)) h
theorem bY {W:Int→Tm→Out (Tm×Int)}(hW:LW W) {n:Nat}{g:Tm}{a:List Tm}{l l' k:Int}{q:Option Tm}(hk:0≤k) (h:Dc E CE W n g a l= .ok (q,l')):Dc E CE W n g a (l+k)= .ok (q,l'+k):=by
 unfold Dc at h ⊢;split at h
 ·cases h;rfl
 split at h
 ·rename_i c;rw[if_pos c];exact cw hk h
 rename_i c;rw[if_neg c];split at h
 ·rename_i c;rw[if_pos c];unfold Qj at h ⊢;split at h
  ·rename_i c;rw[if_pos c];cases h;rfl
  rename_i c;rw[if_neg c];obtain⟨⟨r,l1⟩,e1,e2,e3⟩:=HK h;rw[hW _ _ _ _ k hk e1];simp only[Out.chk,Out.bind];rw[if_pos e2];exact iC hk e3
 rename_i c;rw[if_neg c];split at h
 ·rename_i c;rw[if_pos c];unfold Iw at h ⊢;split at h
  ·rename_i c;rw[if_pos c];cases h;rfl
  rename_i c;rw[if_neg c];obtain⟨⟨r,l1⟩,e1,e2⟩:=D8 h;rw[WT hW hk _ _ _ _ _ _ _ e1];simp only[Out.bind];simp only at e2;split at e2
  ·cases e2;rfl
  split at e2
  ·rename_i c;simp[CE] at c
  rw[if_neg (by simp[CE])];exact iE hk e2
 rename_i c;rw[if_neg c];cases h;rfl
theorem eo:∀n,LW (FM E CE n)
 | 0=>fun l t r l' k _ h=>by rw[FM] at h;cases h
 | n+1=>fun l t r l' k hk h=>by
  have ih:=eo n;have hf:∀(f:Tm→Tm) (t:Tm) (s:Int) (q:Tm) (s':Int),FM E CE n s (f t)= .ok (q,s')→FM E CE n (s+k) (f t)= .ok (q,s'+k):=fun f t s q s' e=>ih _ _ _ _ k hk e;rw[FM] at h ⊢;split at h
  ·cases h
  rename_i c;rw[if_neg c];split at h
  ·rename_i c;simp[CE] at c
  rw[if_neg (by simp[CE])];split at h
  ·cases h
  rename_i c;rw[if_neg c];split at h
  ·rename_i c;rw[if_pos c];split at h
   ·rename_i c;rw[if_pos c];cases h;rfl
   rename_i c;rw[if_neg c];unfold KG at h ⊢;split at h
   ·cases h
   exact K2 hk (hf fun x=>apply x ((Ay t).2.drop 1)) h
  rename_i c;rw[if_neg c];split at h
  ·rename_i c;rw[if_pos c];unfold Oj at h ⊢;split at h
   ·exact K2 hk (hf fun x=>apply x (Ay t).2) h
   cases h
  rename_i c;rw[if_neg c];split at h
  ·rename_i c;rw[if_pos c];split at h
   ·cases h
   obtain⟨⟨r1,l1⟩,e1,e2,e3⟩:=HK h;rw[ih _ _ _ _ k hk e1];simp only[Out.chk,Out.bind];rw[if_pos e2];simp only at e3;split at e3
   ·rename_i c;rw[if_pos c];cases e3;rfl
   rename_i c;rw[if_neg c];unfold Je at e3 ⊢;split at e3
   ·cases e3
   exact K2 hk (hf fun x=>apply x (Ay t).2) e3
  rename_i c;rw[if_neg c];split at h
  ·rename_i c;rw[if_pos c];obtain⟨⟨q,l1⟩,e1,e2⟩:=D8 h;rw[bY ih hk e1];simp only[Out.bind];simp only at e2;split at e2
   ·cases e2;rfl
   exact ih _ _ _ _ k hk e2
  rename_i c;rw[if_neg c];cases h;rfl
theorem Y6 {n m:Nat}{l l2:Int}{t a b:Tm}{x y:Int}(h1:FM E CE n l t= .ok (a,x)) (h2:FM E CE m l2 t= .ok (b,y)) (hl:l≤l2):a=b:=by
 have e1:=eo n l t a x (l2 - l) Au h1;rw[show l+(l2 - l)=l2 by omega] at e1;rcases Nat.le_total n m with hn | hn
 ·rcases nD (E:=E) (S:=CE) n m hn l2 t with e | e
  ·rw[e] at e1;cases e1
  rw[e1,h2] at e;cases e;rfl
 rcases nD (E:=E) (S:=CE) m n hn l2 t with e | e
 ·rw[e] at h2;cases h2
 rw[h2,e1] at e;cases e;rfl
structure Exit (E:List B8) (n:Nat) (l:Int) (a:Tm) (l':Int):Prop where
 many:CE.many (Ay a).2.length=false
 lam:(Ay a).1.kind=5→(Ay a).2.length=0
 lt:(Ay a).1.kind≠11
 proj:(Ay a).1.kind=9∨(Ay a).1.kind=10→∃p,(Ay a).1=Ha (Ay a).1.kind p∧okB p=true∧p.kind≠8∧FM E CE n l p= .ok (p,l')∧a=apply (Ay a).1 (Ay a).2
 con:(Ay a).1.kind=3→Dc E CE (FM E CE n) n (Ay a).1 (Ay a).2 l= .ok (none,l')
 oth:(Ay a).1.kind≠9→(Ay a).1.kind≠10→(Ay a).1.kind≠3→l'=l
theorem oo {n:Nat}{l l':Int}{a:Tm}(ho:okB a=true) (h:Exit E n l a l'):FM E CE (n+1) l a= .ok (a,l'):=by
 have hov:CE.over l=false:=rfl;by_cases k5:(Ay a).1.kind=5
 ·rw[Lf ho hov h.many k5 (h.lam k5),h.oth Au Au Au]
 by_cases k9:(Ay a).1.kind=9∨(Ay a).1.kind=10
 ·obtain⟨p,h1,h2,h3,h4,h5⟩:=h.proj k9;have hk:(Ay a).1.kids[0]?=some p:=by rw[h1];rfl
  rw[L5 ho hov h.many k9 hk,h4];simp only[Out.chk,Out.bind];rw[if_pos h2,KP (r:=(p,l')) h3];simp only;rw[←h1,←h5]
 by_cases k3:(Ay a).1.kind=3
 ·rw[JG ho hov h.many k3,h.con k3];rfl
 rw[Ua ho hov h.many k5 h.lt (fun e=>k9 (.inl e)) (fun e=>k9 (.inr e)) k3,h.oth (fun e=>k9 (.inl e)) (fun e=>k9 (.inr e)) k3]
theorem LQ {h:Tm}(hk:h.kind≠4):∀(xs:List Tm),Ay (apply h xs)=(h,xs):=by
 have key:∀(xs:List Tm) (f:Tm) (ys:List Tm),Ay f=(h,ys)→Ay (apply f xs)=(h,ys++xs):=by
  intro xs
  induction xs with
  | nil=>intro f ys e;simpa [apply] using e
  | cons x xs ih =>
   intro f ys e;have:Ay (GI f x)=(h,ys++[x]):=by simp[GI,Ay,e]
   have:=ih (GI f x) (ys++[x]) this;simpa [apply] using this
 intro xs;have h0:Ay h=(h,[]):=by
  obtain⟨k,i,n,l,s⟩:=h;exact OR (.inl hk)
 simpa using key xs h [] h0
theorem et:∀(n:Nat) (l l':Int) (t a:Tm),FM E CE n l t= .ok (a,l')→∃n' l1 l2,l1≤l∧Exit E n' l1 a l2
 | 0,l,l',t,a,h=>by rw[FM] at h;cases h
 | n+1,l,l',t,a,h=>by
  have ih:=et n;have ho:=bD h Av;have hov:CE.over l=false:=rfl;obtain⟨oh,oa⟩:=DB ho;cases hm:CE.many (Ay t).2.length with
  | true=>rw[fX ho hov hm] at h;cases h
  | false =>
   have step:∀{x:Tm×Int} {f:Tm→Tm},CE.put l x (fun y s=>FM E CE n s (f y))= .ok (a,l')→∃n' l1 l2,l1≤l∧Exit E n' l1 a l2:=fun {x f} e=>by
    obtain⟨g1,g2⟩:=SH (s:=l) (x:=x) (k:=fun y s=>FM E CE n s (f y)) (by rw[e];simp);rw[g2] at e;split at e
    ·cases e
    obtain⟨n',l1,l2,q1,q2⟩:=ih _ _ _ _ e;exact⟨n',l1,l2,by omega,q2⟩
   by_cases k5:(Ay t).1.kind=5
   ·by_cases hl:(Ay t).2.length=0
    ·rw[Lf ho hov hm k5 hl] at h;cases h;exact⟨n,l,l,Int.le_refl _,⟨hm,fun _=>hl,by omega,fun e=>by omega,fun e=>by omega,fun _ _ _=>rfl⟩⟩
    obtain⟨b,hb,_⟩:=ED oh (i:=1) (by rw[k5];decide);rw[S1 ho hov hm k5 hl hb] at h;exact step (f:=fun x=>apply x ((Ay t).2.drop 1)) h
   by_cases k11:(Ay t).1.kind=11
   ·obtain⟨v,hvk,_⟩:=ED oh (i:=1) (by rw[k11];decide);obtain⟨b,hb,_⟩:=ED oh (i:=2) (by rw[k11];decide);rw[Tj ho hov hm k11 hvk hb] at h;exact step (f:=fun x=>apply x (Ay t).2) h
   by_cases k9:(Ay t).1.kind=9∨(Ay t).1.kind=10
   ·obtain⟨p,hpk,op,sp⟩:=ED oh (i:=0) (by rcases k9 with h | h<;>rw[h]<;>decide);rw[L5 ho hov hm k9 hpk] at h;obtain⟨⟨r1,l1⟩,h1,h2,h3⟩:=HK h;have hd:=(Wp Qp n l p _ h1).1;by_cases k8:r1.kind=8
    ·have har:arity 8=3:=rfl;obtain⟨y,hy,oy,sy⟩:=ED h2 (i:=(1+(Ay t).1.kind - 9).toNat) (by show _<arity r1.kind;rw[k8,har];omega);rw[PT (r:=(r1,l1)) k8 hy] at h3;obtain⟨g1,g2⟩:=SH (s:=l1) (x:=(y,0)) (k:=fun y s=>FM E CE n s (apply y (Ay t).2)) (by rw[h3];simp);simp only at h3 hd;rw[g2] at h3;split at h3
     ·cases h3
     obtain⟨n',l3,l2,q1,q2⟩:=ih _ _ _ _ h3;exact⟨n',l3,l2,by omega,q2⟩
    rw[KP (r:=(r1,l1)) k8] at h3;cases h3;obtain⟨n',l3,l2,q1,q2⟩:=ih _ _ _ _ h1;have hw:=oo h2 q2;have hsp:=LQ (h:=Ha (Ay t).1.kind r1) (by show (Ay t).1.kind≠4;omega) (Ay t).2;refine⟨n'+1,l3,l2,q1,?_⟩;simp only;refine⟨by rw[hsp];exact hm,fun e=>?_,?_,fun _=>?_,fun e=>?_,fun e1 e2=>?_⟩
    ·rw[hsp] at e;exact absurd e k5
    ·rw[hsp];exact k11
    ·rw[hsp];exact⟨r1,rfl,h2,k8,hw,rfl⟩
    ·rw[hsp] at e;have e':(Ay t).1.kind=3:=e;omega
    rw[hsp] at e1 e2;have e1':(Ay t).1.kind≠9:=e1;have e2':(Ay t).1.kind≠10:=e2;omega
   by_cases k3:(Ay t).1.kind=3
   ·rw[JG ho hov hm k3] at h;obtain⟨⟨q,l1⟩,h1,h2⟩:=D8 h;have hd:=(V2 Qp (fun s t q=>Wp Qp n s t q) h1).1;cases hq:q.isSome with
    | false =>
     rw[TB hq] at h2;cases h2;cases q with
     | some x=>cases hq
     | none=>exact⟨n,l,_,Int.le_refl _,⟨hm,fun e=>absurd e k5,k11,fun e=>absurd e k9,fun _=>h1,fun _ _ e=>absurd k3 e⟩⟩
    | true =>
     rw[S3 hq] at h2;obtain⟨n',l3,l2,q1,q2⟩:=ih _ _ _ _ h2;simp only at hd;exact⟨n',l3,l2,by omega,q2⟩
   rw[Ua ho hov hm k5 k11 (fun e=>k9 (.inl e)) (fun e=>k9 (.inr e)) k3] at h;cases h;exact⟨n,l,l,Int.le_refl _,⟨hm,fun e=>absurd e k5,k11,fun e=>absurd e k9,fun e=>absurd e k3,fun _ _ _=>O⟩⟩
end
section
variable {α:Type}{o:Out (α×Int)}{a:α×Int}{z:α}{e:Int}
end
theorem bz:N1 20000:=⟨by omega,by omega⟩
end Go.Eu
namespace Go.Proofs.YtldfmjoncbjldaaGreat
open Go.Abs Go.Eu
end Go.Proofs.YtldfmjoncbjldaaGreat
namespace Go.Eu
open Go.Abs
def Dd (p:Int×List Int):List PV:=[I p.1,.lst (p.2.map Fy)]
theorem eF (p:Int×List Int):Ej 2 (Dd p):=⟨rfl,by simp[Dd]⟩
theorem Vt (l:List (Int×List Int)):∀r∈l.map Dd,Ej 2 r:=IG eF l
theorem Vr (l:List (Int×List Int)):∀r∈l.map Dd,Ej 2 r:=IG eF l
theorem TY {t x z:Tm}{ps:List Int}{p:Int}(h:Ig t ps x=some z) (hp:ps[0]?=some p):p.toNat<(Ay t).2.length:=by
 cases ps with
 | nil=>simp at hp
 | cons q qs =>
  simp at hp;subst hp;rw[Ig] at h;rcases Nat.lt_or_ge q.toNat (Ay t).2.length with hl | hl
  ·exact hl
  rw[List.getElem?_eq_none hl] at h;cases h
theorem Vo {t x z y:Tm}{ps:List Int}{p:Int}(h:Ig t ps x=some z) (hp:ps[0]?=some p) (hy:(Ay t).2[p.toNat]?=some y):∃w,Ig y (ps.drop 1) x=some w∧apply (Ay t).1 ((Ay t).2.set p.toNat w)=z:=by
 cases ps with
 | nil=>simp at hp
 | cons q qs =>
  simp at hp;subst hp;rw[Ig,hy] at h;simp only[Option.map_eq_some_iff] at h;obtain⟨w,h1,h2⟩:=h;exact⟨w,h1,h2⟩
theorem ZW {t x z:Tm}{ps:List Int}(h:Ig t ps x=some z) (hp:ps.length=0):x=z:=by
 cases ps with
 | nil=>rw[Ig] at h;cases h;rfl
 | cons q qs=>simp at hp
theorem VQ {t x z:Tm}{ps:List Int}(h:Ig t ps x=some z) (hp:ps.length≠0):0<(Ay t).2.length:=by
 cases ps with
 | nil=>simp at hp
 | cons q qs=>have:=TY (p:=q) h rfl;omega
end Go.Eu
namespace Go.Proofs.YtldfmjoncbjldaaGreat
open Go.Abs Go.Eu
theorem mN:∀(l:List Int),(l.length<549755813888)→BL Tryz.prog 186 [.p (.lst (List.map Fy l))] [] (Y3 (fun v=>v) 1 (List.map Fy l)):=by
 intro l h1;refine DJ Tryz.func186 (DT [2] O (EF O O (N7 HE O O) ?_));rintro _ ⟨q,rfl,hq⟩;refine BW (BC [0] rfl ?_ ?_)<;>intro c
 ·refine CK [1] O (A5 (DK (t:=2) (sz:=1) O) (BP (A9 [0] O (Bg [] [0] O O ?_))));rw[show l=[] by simpa using hq c]
  all_goals exact⟨_,_,rfl,rfl⟩
 refine DT [0] O (P7 O O (MO HE) fun b5 cp=>BW (DT [1] O ?_));refine ET O O (Bh (i:=0) (rows':=List.map Fy l) HE HE jR O O O O O O (Jp _) (by simp only[List.length_map,List.length_nil];omega) (Fz (f:=Fy) [] l)) fun o cp1=>BW (A9 [1] O (Bg [] [0] O O ⟨_,_,O,O⟩))
theorem _root_.Go.Ac {α:Prop}(h:α:=by simp only[DZ,List.length_set];omega):α:=h
theorem _root_.Go.Ad {α:Prop}(h:α:=by simp only[List.length_drop];omega):α:=h
theorem _root_.Go.Ai {α:Prop}(h:α:=by first | omega | assumption):α:=h
theorem oI:∀(n:Nat) (ps:List Int) (t x z:Tm),(ps.length≤n)→(okB t=true)→(∀p∈ps,0≤p)→(ps.length<1000000)→(Ig t ps x=some z)→En Tryz.prog 184 [.agg ((BD t).map .p),.p (.lst (List.map Fy ps)),.agg ((BD x).map .p)] (.agg ((BD z).map .p)):=by
 intro n
 induction n using Nat.strongRecOn with
 | ind n ih =>
  intro ps t x z h0 h1 h3 h4 h5;have hsp:=Q7 h1;have hsl:=hsp.len;have hss:=hsp.sz;refine DJ Tryz.func184 (CG [0] O O fun b3=>CG [0] O O fun b5=>Bp [0] O (Az Ba O) fun b6=>B9 [1] O O (List.length_map _) ?_);refine BC [1] rfl ?_ ?_<;>intro c
  ·refine A9 [2,1,0,1] O (Bg [0] [] O O ⟨by rw[ZW h5 Au];try rfl,rfl⟩)
  refine CQ [1,2] O (O4 t hsp.nd Ak) (Bp [3] O (Az Ba O) fun b7=>DT [3,0,1] O (NP O O O (.inl ⟨O,O,O⟩) (M3 ((Ay t).2) hsp.len) (.inl O) fun o cp=>BW (CK [1] O ?_)));refine JE (i:=0) O (by have hxl:=VQ h5 Au;rw[A8];omega) fun b hb=>?_;subst hb;refine BP (E2 [0] [] O ?_);refine Bb [2] O ?_;obtain⟨x1,hx1⟩:=A1 (l:=ps) (i:=0) Au;have hx0:=h3 _ (List.mem_of_getElem? hx1);have hxl:=TY h5 hx1;refine A3 O (fun _=>A0 HE O O Au (LR hx1) (O)) Aw (Bb [3] O (A3 O (fun _=>A0 HE O O Au (LR hx1) (O)) Aw (A3 O (fun _=>Gs Dz O) Aw (A3 O (fun _=>CI BT O O Au Ah) Aw ?_))));obtain⟨y,hy⟩:=A1 (l:=((Ay t).2)) (i:=(x1:Int).toNat) Ai;refine CF (j:=0) O O O (fun H i hi=>Dk (i:=i) CN O hi (BO hy)) AB Aw (A3 O (fun _=>Bj O) Aw (A3 O (fun _=>Cn (lo:=1) HE O (CX (Jp _)) ⟨_,O⟩ O AZ (Nat.le_refl _) (jl (f:=Fy) ps 1)) Aw (Bb [1,3] O ?_)));obtain⟨z1,e1,e2⟩:=Vo h5 hx1 hy;refine A3 rfl (fun _=>BF rfl rfl (ih (n - 1) Au (ps.drop 1) y x z1 Ad (hsp.args _ (List.mem_of_getElem? hy)) (fun p hp=>h3 p (List.mem_of_mem_drop hp)) Ad e1) rfl) trivial (A3 O (fun _=>CI BT O O Au Ah) Aw (FB O O (C6 (i:=0) (j:=((x1:Int).toNat)) CN O O O Ah O (Hj _) (A7 _) (Gc _) (MV ((Ay t).2) ((x1:Int).toNat) z1)) AB Aw (HM O Ap (Cu (DT [2,1] O ?_)))));refine BJ (CV (t:=20) (x:= .vs (some b) (A6 ((((Ay t).2)).set ((x1:Int).toNat) z1)).length cp) (CZ ((Ay t).2) (l':=(((Ay t).2)).set ((x1:Int).toNat) z1) Av)) (BJ (CV (t:=9) (x:= .vs (some b) (A6 ((((Ay t).2)).set ((x1:Int).toNat) z1)).length cp) (CZ ((Ay t).2) (l':=(((Ay t).2)).set ((x1:Int).toNat) z1) Av)) (BJ (CV (t:=21) (x:= .vs (some b) (A6 ((((Ay t).2)).set ((x1:Int).toNat) z1)).length cp) (CZ ((Ay t).2) (l':=(((Ay t).2)).set ((x1:Int).toNat) z1) Av)) (BJ (CV (t:=25) (x:= .vs (some b) (A6 ((((Ay t).2)).set ((x1:Int).toNat) z1)).length cp) (CZ ((Ay t).2) (l':=(((Ay t).2)).set ((x1:Int).toNat) z1) Av)) ?_)));refine BJ (CV (t:=37) (x:= .vs (some b) (A6 ((((Ay t).2)).set ((x1:Int).toNat) z1)).length cp) (CZ ((Ay t).2) (l':=(((Ay t).2)).set ((x1:Int).toNat) z1) Av)) (BJ (CM (i:=0) [20,9,21,25,37] O (DA ⟨O,O,O,O,O,Aw⟩)) (BW (CQ [0] O (Fj ((Ay t).1) ((((Ay t).2)).set ((x1:Int).toNat) z1) Ac) ?_)));refine A9 [1,1,1] O (Bg [1] [] O O ⟨by rw[e2];try rfl,rfl⟩)
end Go.Proofs.YtldfmjoncbjldaaGreat
namespace Go.Eu
open Go.Abs
def P1 (n:Nat):List (Int×List Int):=(List.range n).map fun i:Nat=>((i:Int),[])
theorem Pj (n:Nat):P1 (n+1)=P1 n++[((n:Int),[])]:=by simp[P1,List.range_succ]
theorem Nn (n:Nat):(P1 n).length=n:=by simp[P1]
theorem Jo (a:Int×List Int) (fx:Int):De a fx 0=[]:=rfl
theorem Jl (a:Int×List Int) (fx:Int) (n:Nat):De a fx (n+1)=De a fx n++[(a.1,a.2++[fx+(n:Int)])]:=by simp[De,List.range_succ]
theorem Iu {α:Type}{l:List α}{i:Nat}{x:α}(h:l[i]?=some x):l.take (i+1)=l.take i++[x]:=by rw[List.take_add_one,h];rfl
theorem O5 {α:Type}{l:List α}{i:Nat}(h:l.length≤i):l.take i=l:=List.take_of_length_le h
theorem L7 {w:FV}(h:FD w):okB w.body=true:=by
 obtain⟨k,b,v,l⟩:=w;simp only[FD] at h;exact h.1
structure ng (a us:List Tm) (pl:List (Int×List Int)) (w:FV):Prop where
 ok:gg a us pl
 nn:∀p∈pl,0≤p.1∧(∀q∈p.2,0≤q)∧p.2.length+Dq w≤1000
theorem ng.len {a us:List Tm}{pl:List (Int×List Int)}{w:FV}(h:ng a us pl w):pl.length=us.length:=h.ok.len
theorem aK (a:List Tm) (n:Nat) (w:FV) (hn:n≤a.length) (hd:Dq w≤1000):ng a (a.take n) (P1 n) w:=by
 refine⟨Vy a n hn,fun p hp=>?_⟩;obtain⟨i,_,rfl⟩:=List.mem_map.1 hp;exact⟨by simp,by simp,by simp;omega⟩
theorem ng.next {E:List B8}{a us f:List Tm}{pl:List (Int×List Int)}{w q:FV}(h:ng a us pl w) (hE:Lb E) {i:Nat}{v:Tm}{p:Int×List Int}{d:B8}{j:Int}{nm:ByteArray}(hv:us[i]?=some v) (hp:pl[i]?=some p) (hc:Ce E v=some (d,j,f)) (hb:Cl nm w.branches=some q) (ho:FD w):ng a (us++f) (pl++De p d.fixed f.length) q:=by
 have hcf:=Fv hc;obtain⟨b1,b2⟩:=W2 hb ho;have hfx:=(hE.all d hcf.mem).fx.1;have hmore:=h.ok.more hv hp hfx;rw[←hcf.fs] at hmore;obtain⟨n1,n2,n3⟩:=h.nn p (List.mem_of_getElem? hp);refine⟨hmore,fun r hr=>?_⟩;rcases List.mem_append.1 hr with hr | hr
 ·obtain⟨m1,m2,m3⟩:=h.nn r hr;exact⟨m1,m2,by omega⟩
 obtain⟨k,_,rfl⟩:=List.mem_map.1 hr;refine⟨n1,fun q hq=>?_,by simp only[List.length_append,List.length_cons,List.length_nil];omega⟩;rcases List.mem_append.1 hq with hq | hq
 ·exact n2 q hq
 have:=List.mem_singleton.1 hq;omega
theorem ng.at_ {a us:List Tm}{pl:List (Int×List Int)}{w:FV}(h:ng a us pl w) {i:Nat}{v:Tm}{p:Int×List Int}(hv:us[i]?=some v) (hp:pl[i]?=some p):0≤p.1∧(∀q∈p.2,0≤q)∧p.2.length≤1000∧p.1.toNat<a.length:=by
 obtain⟨n1,n2,n3⟩:=h.nn p (List.mem_of_getElem? hp);obtain⟨j,path,y,h1,h2,h3⟩:=h.ok.at_ i v hv;rw[hp] at h1;cases h1;exact⟨n1,n2,by omega,(List.getElem?_eq_some_iff.1 h2).1⟩
section
variable {E:List B8}{σ:Type}{S:Sys σ}{T:σ→Tm→Out (Option Tm×σ)}{h:Tm}{ar:Int}{a us:List Tm}{n:Nat}{t:FV}{pl:List (Int×List Int)}{s:σ}{x:Tm}{p:Int×List Int}
def jf (h:Tm) (a:List Tm) (p:Int×List Int) (r:Option Tm×σ):Out (Option Tm×σ):=match r.1 with
 | none=> .ok (none,r.2)
 | some x=>match Ig (a.getD p.1.toNat default) p.2 x with
  | none=> .stuck
  | some y=> .ok (some (apply h (a.set p.1.toNat y)),r.2)
theorem ZP {X:Out (Option Tm×σ)}(e:Fq E S T h ar a n t us pl s=X) (hX:X≠ .stuck):∃k,n=k+1:=by
 cases n with
 | zero=>rw[Fq] at e;exact absurd e.symm hX
 | succ k=>exact⟨k,rfl⟩
theorem aJ (hk:t.kind≠1):Fq E S T h ar a (n+1) t us pl s=FE S h t.body us (a.drop ar.toNat) s:=by rw[Fq,if_neg hk]
theorem ei (hk:t.kind=1) (hb:t.var<0∨t.var≥(us.length:Int)):Fq E S T h ar a (n+1) t us pl s= .ok (none,s):=by rw[Fq,if_pos hk,if_pos hb]
theorem Ze (hk:t.kind=1) (hb:¬(t.var<0∨t.var≥(us.length:Int))) (hx:us[t.var.toNat]?=some x) (hp:pl[t.var.toNat]?=some p) (hc:Ce E x=none):Fq E S T h ar a (n+1) t us pl s=(T s x).bind (jf h a p):=by
 rw[Fq,if_pos hk,if_neg hb,CO hx,CO hp,hc];rfl
theorem jt {d:B8}{j:Int}{f:List Tm}(hk:t.kind=1) (hb:¬(t.var<0∨t.var≥(us.length:Int))) (hx:us[t.var.toNat]?=some x) (hp:pl[t.var.toNat]?=some p) (hc:Ce E x=some (d,j,f)) (hbr:Cl (EJ d j).name t.branches=none):Fq E S T h ar a (n+1) t us pl s= .ok (none,s):=by
 rw[Fq,if_pos hk,if_neg hb,CO hx,CO hp,hc];simp only[hbr]
theorem nN {d:B8}{j:Int}{f:List Tm}{t':FV}(hk:t.kind=1) (hb:¬(t.var<0∨t.var≥(us.length:Int))) (hx:us[t.var.toNat]?=some x) (hp:pl[t.var.toNat]?=some p) (hc:Ce E x=some (d,j,f)) (hbr:Cl (EJ d j).name t.branches=some t'):Fq E S T h ar a (n+1) t us pl s=Fq E S T h ar a n t' (us++f) (pl++De p d.fixed f.length) s:=by
 rw[Fq,if_pos hk,if_neg hb,CO hx,CO hp,hc];simp only[hbr]
theorem VG {r:Option Tm×σ}(hr:r.1.isSome=false):jf h a p r= .ok (none,r.2):=by
 obtain⟨q,s⟩:=r;cases q with
 | none=>rfl
 | some x=>cases hr
theorem WL {r:Option Tm×σ}{y:Tm}(hs:jf h a p r≠ .stuck) (hr:r.1.isSome=true) (hy:a[p.1.toNat]?=some y):∃z,Ig y p.2 (r.1.getD BN)=some z∧jf h a p r= .ok (some (apply h (a.set p.1.toNat z)),r.2):=by
 obtain⟨q,s⟩:=r;cases q with
 | none=>cases hr
 | some x =>
  unfold jf at hs ⊢;simp only at hs ⊢;rw[CO hy] at hs ⊢;cases hz:Ig y p.2 x with
  | none=>rw[hz] at hs;exact absurd rfl hs
  | some z=>exact⟨z,hz,rfl⟩
end
end Go.Eu
namespace Go.Proofs.YtldfmjoncbjldaaGreat
open Go.Abs Go.Eu
def xF (ds:List B8) (n:Nat):Prop:=∀(m:Nat) (t:Tm) (s:Int),N1 s→Dg ds CE n s t≠ .stuck→BL Tryz.prog 67 [.ptr m 0,.agg ((BD t).map .p)] [.box m [.p (.lst (List.map B0 ds)),.p (I s)]] (Oa (fun(r:Option Tm×Int)=> .tup [TV (r.1.getD BN),.p (.bool r.1.isSome)]) (fun _=> .p (.iface 178 .unit)) (fun r H'=>H'=[.box m [.p (.lst (List.map B0 ds)),.p (I r.2)]]) ((Dg ds CE n s t).ex))
theorem _root_.Go.AO {α:Prop}(h:α:=by simp only[List.length_map,Nn,List.length_cons,List.length_nil];omega):α:=h
set_option maxHeartbeats 4000000 in
theorem bj:∀(n m:Nat) (ds:List B8) (s:Int) (g:Tm) (a:List Tm) (d:B8) (f:I9),(xF ds n)→(G2 ds)→(N1 s)→(d∈ds)→(f∈d.funs)→(f.arity≤a.length)→(okB g=true)→(a.length<549755813888)→(∀y∈a,okB y=true)→(Fq ds CE (Dg ds CE n) g f.arity a n f.tree (a.take f.arity.toNat) (P1 f.arity.toNat) s≠ .stuck)→BL Tryz.prog 155 [.ptr m 0,.agg ((BD g).map .p),.agg ((Iy f).map .p),.p (.lst (A6 a))] [.box m [.p (.lst (List.map B0 ds)),.p (I s)]] (Oa (fun(r:Option Tm×Int)=> .tup [TV (r.1.getD BN),.p (.bool r.1.isSome)]) (fun _=> .p (.iface 178 .unit)) (fun r H'=>H'=[.box m [.p (.lst (List.map B0 ds)),.p (I r.2)]]) ((Fq ds CE (Dg ds CE n) g f.arity a n f.tree (a.take f.arity.toNat) (P1 f.arity.toNat) s).ex)):=by
 intro n m ds s g a d f hT h2 h3 h4 h5 h6 h7 h8 h9 hns;obtain⟨gk,gi,gn,gl,gs⟩:=g;have hgo:=Bu.1 h7;have hgl:=hgo.nd;simp only[Nd,DZ] at hgl;have hfu:=(h2.g.all _ h4).fu _ h5;have hdp:=h2.fu _ h4 _ h5;have hlf:=fZ h2 h4 h5 h9;have htl:(a.take f.arity.toNat).length=f.arity.toNat:=by rw[List.length_take];omega
 have hpw:=aK a f.arity.toNat f.tree Au Au;generalize hX:Fq ds CE (Dg ds CE n) (.mk gk gi gn gl gs:Tm) f.arity a n f.tree (a.take f.arity.toNat) (P1 f.arity.toNat) s=X at hns ⊢;refine DJ Tryz.func155 (CG [0] O O fun b5=>CG [0] O O fun b6=>Bp [0] O (Az Ba O) fun b8=>A2 [3] O (Ax (i:=1) Dz O O (C9 _)) (A2 [0] O (Cn (lo:=0) (hi:=(f.arity:Int).toNat) BT O (CX (Bd _)) O ⟨_,pI Au⟩ (Nat.zero_le _) AZ (WD a ((f.arity:Int).toNat))) (DT [0] O (NP O O O (.inl ⟨O,O,O⟩) (M3 (a.take ((f.arity:Int).toNat)) (by simp only[List.length_take];omega)) (.inl O) fun o cp=>BW (DT [2] O ?_)))));refine BJ (DK (t:=11) (sz:=2) O) (BW (A2 [1] O (JP BT O (A8 _)) ?_));refine GG (α:=Nat×Option Nat×Nat) [1] [0,3,5,6,8,10,32] [0,1,2,3,4,5] (fun(i,o1,cp1)=>[(11,.vs o1 (List.map Dd (P1 i)).length cp1),(33,.p (I (i:Int)))]) (fun(i,o1,cp1)=>[(0,.vec o1 2 (List.map Dd (P1 i)) cp1)]) (fun(i,o1,cp1)=>(a.take f.arity.toNat).length - i) (fun(i,o1,cp1)=>i≤(a.take f.arity.toNat).length) ⟨0,none,0⟩ O O O AY ?_;rintro⟨i,o1,cp1⟩ hC
 try simp only at hC
 have hi:=hC;refine BC [1] rfl ?_ ?_<;>intro c
 ·exact A2 [5] O (BH Sd YH O O O O O) (DT [0] O (ET O O (Bh (i:=0) (rows':=List.map Dd ([((i:Int),[])])) Sd Sd YH O O O O O O (Vt _) AO (Fz (f:=Dd) (P1 i) ([((i:Int),[])]))) fun o2 cp2=>BW (FR [3] 0 ⟨i+1,o2,cp2⟩ O Au (e1:=⟨we (FQ (f:=Dd) (P1 i++([((i:Int),[])])) ((Pj i).symm)),we O,Aw⟩) (e2:=wl (Eo (f:=Dd) (P1 i++([((i:Int),[])])) ((Pj i).symm)) (wl (oe O) (wl (oe O) (wl (oe O) (wl (oe O) (wl (oe O) (Ie))))))))))
 refine DH [0] O (A2 [1] O (Bq (i:=3) LI O O (HR _) (Dt _)) (Bp [0] O (Az Vm O) fun b13=>?_));refine GG (α:=Nat×FV×List Tm×List (Int×List Int)×Option Nat×Nat×Option Nat×Nat) [1,0,1] [0,3,5,6,8,13] [0,1,2,3,4,5,6] (fun(k2,w,us,pl,o2,cp2,o3,cp3)=>[(10,.vs o2 (A6 us).length cp2),(11,.vs o3 (List.map Dd pl).length cp3)]) (fun(k2,w,us,pl,o2,cp2,o3,cp3)=>[(0,.box b13 ((EC w).map .p)),(1,.vec o3 2 (List.map Dd pl) cp3),(2,.vec o2 5 (A6 us) cp2)]) (fun(k2,w,us,pl,o2,cp2,o3,cp3)=>k2) (fun(k2,w,us,pl,o2,cp2,o3,cp3)=>Fq ds CE (Dg ds CE n) (.mk gk gi gn gl gs:Tm) f.arity a k2 w us pl s=X∧XW w us∧ng a us pl w) ⟨n,f.tree,a.take f.arity.toNat,P1 f.arity.toNat,o,cp,o1,cp1⟩ O O O (⟨hX,hlf,hpw⟩) ?_ (e0:=⟨we O,we (FQ (f:=Dd) (P1 i) (by rw[show i=f.arity.toNat from by omega])),Aw⟩) (e1:=wl (oe O) (wl (Eo (f:=Dd) (P1 i) (by rw[show i=f.arity.toNat from by omega])) (wl (oe O) (wl (oe O) (wl (oe O) (wl (oe O) (wl (oe O) (Ie))))))));rintro⟨k2,w,us,pl,o2,cp2,o3,cp3⟩ hC1
 try simp only at hC1
 obtain⟨hC1,hL,hW⟩:=hC1;obtain⟨k1,rfl⟩:=ZP hC1 hns;refine A2 [1] O (Ax (i:=0) Dz O O (HT _)) ?_;refine BC [1] rfl ?_ ?_<;>intro c1
 ·have hk1:=c1;refine CJ [0] 10 [0,3,5,6,8,10,11,13] 56 ((decide ((w.var:Int)<(0:Int)))||(decide ((w.var:Int)≥((us.length:Nat):Int)))) O O ?_ ?_
  ·refine A2 [1] O (Ax (i:=0) Dz O O (DD _)) ?_;refine Bc [2] 50 rfl rfl ?_ ?_<;>intro g1
   ·exact CT [6] O
   exact A2 [1] O (Ax (i:=0) Dz O O (DD _)) (A2 [1] O (JP BT O (A8 _)) (CT [2] O))
  refine BC [0] rfl ?_ ?_<;>intro c2
  ·rw[ei hk1 (by simpa using c2)] at hC1;refine CK [3,3,0] O (A5 (BE (i:=3) O) (BP (A9 [0] O (Bg [3] [6] O O ⟨⟨_,_⟩,G1 hC1.symm,O,O⟩))))
  have hcb:¬(w.var<0∨w.var≥(us.length:Int)):=by simpa using c2
  have hWl:=hW.len;have hLl:=hL.len;refine A2 [2] O (Ax (i:=0) Dz O O (DD _)) (DT [0] O (I2 (i:=1) O Aj fun b hb=>?_));subst hb;refine BW (A2 [0] O (CI Sd O O Au AI) ?_);obtain⟨y,hy⟩:=A1 (l:=pl) (i:=(w.var:Int).toNat) AW;refine A2 [0] O (Dk (i:=1) wh O O (PY hy)) (Bp [0] O (Az YH O) fun b14=>A2 [4,0,1] O (Ax (i:=1) Dz O O (DD _)) (DT [0] O (I2 (i:=3) O Aj fun b1 hb1=>?_)));subst hb1;refine BW (A2 [0] O (CI BT O O Au AI) ?_);obtain⟨y1,hy1⟩:=A1 (l:=us) (i:=(w.var:Int).toNat) AW;refine A2 [0] O (Dk (i:=3) CN O O (BO hy1)) (A2 [0] O (Bi [7] O (.inl ⟨O,O,O⟩) (W0 m ds s y1 h2.g (hL.ok _ (List.mem_of_getElem? hy1))) ⟨_,_,O,O,O⟩ As O (.inl O)) (Bp [5] O (Az Ih O) fun b15=>?_));refine BC [6,0,1] rfl ?_ ?_<;>intro c3
  ·have hcn:=Nu c3;obtain⟨ha1,ha2,ha3,ha4⟩:=hW.at_ hy1 hy;obtain⟨ya,hya⟩:=A1 ha4;refine A2 [3] O (Ax (i:=2) Dz O O (DD _)) (A2 [0] O (CI BT O O Au AI) ?_);obtain⟨y2,hy2⟩:=A1 (l:=us) (i:=(w.var:Int).toNat) AW;refine A2 [0] O (Dk (i:=4) CN O O (BO hy2)) ?_;have hyy:y2=y1:=Option.some.inj (hy2.symm.trans hy1);rw[Ze hk1 hcb hy2 hy (by rw[hyy];exact hcn)] at hC1;have hn0:=hns;rw[←hC1] at hn0;have hn1:=Rv hn0;refine DT [0] O (GR [8] O O O (.inl ⟨O,O,O⟩) (hT m y2 s h3 hn1) ⟨_,_,O,O,O⟩ As (aw (we O) (aw (we O) (HW))) (fun _ _ h=>(congrArg List.length h).trans O) ?_ ?_)
   rotate_left
   ·intro e _ he;exact⟨O,_,List.nil_sublist _,⟨_,by rw[←hC1];exact XA hn0 he,rfl⟩⟩
   rintro⟨q,n2⟩ _ hz rfl;rw[W3 hz] at hC1;refine BW (Bp [3] O (Az Ba O) fun b19=>?_);refine BC [4,0,1] rfl ?_ ?_<;>intro c4
   ·rw[VG c4] at hC1;refine CK [3,6,0] O (A5 (BE (i:=6) O) (BP (A9 [0] O (Bg [6] [9] O O ⟨⟨_,_⟩,G1 hC1.symm,O,O⟩))))
   obtain⟨z1,hz1,hz2⟩:=WL (by rw[hC1];exact hns) c4 hya;rw[hz2] at hC1;refine DT [1] O (NP O O O (.inl ⟨O,O,O⟩) (M3 a h8) (.inl O) fun o4 cp4=>BW (CK [1] O ?_));refine JE (i:=0) O Aj fun b2 hb2=>?_;subst hb2;refine BP (E2 [0] [] O ?_);refine Bb [6,3,3] O (A3 O (fun _=>CI BT O O Au AI) Aw ?_);obtain⟨y3,hy3⟩:=A1 (l:=a) (i:=(y.1:Int).toNat) AW;refine CF (j:=0) O O O (fun H i hi=>Dk (i:=i) CN O hi (BO hy3)) AB Aw (Bb [3,3,1] O ?_);have hyy:=Option.some.inj (hy3.symm.trans hya);refine A3 O (fun _=>BF O O (oI y.2.length y.2 y3 (q.getD BN) z1 (Nat.le_refl _) (h9 _ (List.mem_of_getElem? hy3)) ha2 Au (by rw[hyy];exact hz1)) O) Aw (A3 O (fun _=>CI BT O O Au AI) Aw (FB O O (C6 (i:=0) (j:=((y.1:Int).toNat)) CN O O O AR O (Hj _) (A7 _) (Gc _) (MV a ((y.1:Int).toNat) z1)) AB Aw (HM O Ap (Cu (DT [2,9] O ?_)))));refine BJ (CV (t:=91) (x:= .vs (some b2) (A6 ((a).set ((y.1:Int).toNat) z1)).length cp4) (CZ a (l':=(a).set ((y.1:Int).toNat) z1) Av)) (BJ (CV (t:=21) (x:= .vs (some b2) (A6 ((a).set ((y.1:Int).toNat) z1)).length cp4) (CZ a (l':=(a).set ((y.1:Int).toNat) z1) Av)) (BJ (CV (t:=92) (x:= .vs (some b2) (A6 ((a).set ((y.1:Int).toNat) z1)).length cp4) (CZ a (l':=(a).set ((y.1:Int).toNat) z1) Av)) (BJ (CV (t:=95) (x:= .vs (some b2) (A6 ((a).set ((y.1:Int).toNat) z1)).length cp4) (CZ a (l':=(a).set ((y.1:Int).toNat) z1) Av)) (BJ (CV (t:=106) (x:= .vs (some b2) (A6 ((a).set ((y.1:Int).toNat) z1)).length cp4) (CZ a (l':=(a).set ((y.1:Int).toNat) z1) Av)) (BJ (CM (i:=0) [91,21,92,95,106] O (DA ⟨O,O,O,O,O,Aw⟩)) ?_)))));refine BW (CQ [0] O (Fj (.mk gk gi gn gl gs:Tm) ((a).set ((y.1:Int).toNat) z1) Ac) ?_);refine A9 [2,6,1] O (Bg [6] [9] O O ⟨⟨_,_⟩,G1 hC1.symm,O,O⟩)
  obtain⟨ha1,ha2,ha3,ha4⟩:=hW.at_ hy1 hy;have hcs:=Lc c3;have hcf:=Fv hcs;have hlo:=hcf.lo;have hhi:=hcf.hi;have hfl:=JN h2.g hcs;have hdf:=(h2.g.all _ hcf.mem).fx;refine E2 [0] [] O (Bb [2,2] O (CF (j:=0) O O O (fun H i hi=>Ax (i:=i) GB O hi (B5 _)) AB Aw (A3 O (fun _=>Bj O) Aw ?_)));obtain⟨x,hx⟩:=A1 (l:=((Bo ds y1).1).ctors) (i:=((Bo ds y1).2.1:Int).toNat) Au;refine A3 O (fun _=>A0 Kb O O Au (Gq hx) (Ei _)) Aw (A3 O (fun _=>DM US O O) Aw (A3 O (fun _=>DR OB O (GZ _)) Aw (A3 O (fun _=>BF O O (gT w x.name hL.tin.bl) O) Aw ?_)));refine Dj [5,2,1] rfl (BC [2] rfl ?_ ?_)<;>intro c4
  ·rw[jt hk1 hcb hy1 hy hcs (by rw[EJ,CO hx];exact jh c4)] at hC1;refine CK [3,5,0] O (A5 (BE (i:=5) O) (BP (A9 [0] O (Bg [5] [8] O O ⟨⟨_,_⟩,G1 hC1.symm,O,O⟩))))
  have hbs:=nS c4;rw[nN hk1 hcb hy1 hy hcs (by rw[EJ,CO hx];exact hbs)] at hC1;refine B9 [1] O O (A8 _) ?_;refine GG (α:=Nat×Option Nat×Nat×Option Nat×Nat) [1] [0,3,5,6,8,13,14,15,122,123] [0,1,2,3,4,5,6,7,8] (fun(i,o4,cp4,o5,cp5)=>[(10,.vs o4 (A6 (us++(Bo ds y1).2.2.1.take i)).length cp4),(11,.vs o5 (List.map Dd (pl++De y (Bo ds y1).1.fixed i)).length cp5),(124,.p (I (i:Int)))]) (fun(i,o4,cp4,o5,cp5)=>[(3,.vec o5 2 (List.map Dd (pl++De y (Bo ds y1).1.fixed i)) cp5),(4,.vec o4 5 (A6 (us++(Bo ds y1).2.2.1.take i)) cp4)]) (fun(i,o4,cp4,o5,cp5)=>(Bo ds y1).2.2.1.length - i) (fun(i,o4,cp4,o5,cp5)=>i≤(Bo ds y1).2.2.1.length) ⟨0,(some b1),cp2,(some b),cp3⟩ O O O AY ?_ (e0:=⟨we (H9 us Av),we (FQ (f:=Dd) pl (by simp[Jo])),we O,Aw⟩) (e1:=wl (oe O) (wl (oe O) (wl (oe O) (wl (Eo (f:=Dd) pl (by simp[Jo])) (wl (Gw us Av) (wl (oe O) (wl (oe O) (wl (oe O) (wl (oe O) (Ie))))))))));rintro⟨i,o4,cp4,o5,cp5⟩ hC2
  try simp only at hC2
  have hi:=hC2;refine BC [1] rfl ?_ ?_<;>intro c5
  ·refine D6 [1] ((Bo ds y1).2.2.1) i O O O (IH _) (fun x1 hx1=>?_);refine Bp [1] O (Az Ba O) fun b23=>?_;obtain⟨x1k,x1i,x1n,x1l,x1s⟩:=x1;refine A2 [4,0,1,0] O (BH BT Ba O O O O O) (DT [0] O (ET O O (Bh (i:=5) (rows':=A6 [(.mk x1k x1i x1n x1l x1s:Tm)]) BT BT Ba O O O O O O (Bd _) (by have:=hL.len;have:=hW.len;simp only[A8,Nn,Ik,List.length_take,List.length_map,List.length_cons,List.length_nil,List.length_append];omega) (Hl (us++(Bo ds y1).2.2.1.take i) [(.mk x1k x1i x1n x1l x1s:Tm)])) fun o6 cp6=>BW (E2 [1] [5,14] O ?_)));refine Bb [5,2,2] O (tc [(6,.free (.ptr b15 13)),(7,.read [.box b15 ((B0 ((Bo ds y1).1)).map .p)] (.p (I (((Bo ds y1).1).fixed)))),(8,.free (.p (I (i:Int)))),(9,.free (.p (I ((((Bo ds y1).1).fixed:Int)+((i:Int):Int))))),(10,.free (.p (.lst (List.map Fy [((((Bo ds y1).1).fixed:Int)+((i:Int):Int))]))))] O O O (.inl ⟨O,O,O⟩) (mN y.2 Au) (.inl O) Ap fun o7 cp7=>⟨AB,Aw,?_⟩);refine Bb [1] O (CF (j:=2) O O O (fun H i hi=>Ax (i:=i) Dz O hi (Cr _)) AB AS (Bb [2] O (A3 O (fun _=>BH HE jR O O O O O) AS (FB O O (YJ (i:=0) (rows':=List.map Fy [((((Bo ds y1).1).fixed:Int)+((i:Int):Int))]) HE HE jR O O O O O O (Jp _) (by have:=hL.len;have:=hW.len;simp only[A8,Nn,Ik,List.length_take,List.length_map,List.length_cons,List.length_nil,List.length_append];omega) (Fz (f:=Fy) y.2 [((((Bo ds y1).1).fixed:Int)+((i:Int):Int))])) AB AS (Bb [1] O (A3 O (fun _=>BH Sd YH O O O O O) AS ?_))))));refine JT [] O O (Bh (i:=4) (rows':=List.map Dd ([(y.1,(y.2++[((((Bo ds y1).1).fixed:Int)+((i:Int):Int))]))])) Sd Sd YH O O O O O O (Vt _) (by have:=hL.len;have:=hW.len;simp only[A8,Nn,Ik,List.length_take,List.length_map,List.length_cons,List.length_nil,List.length_append];omega) (Fz (f:=Dd) (pl++De y (Bo ds y1).1.fixed i) ([(y.1,(y.2++[((((Bo ds y1).1).fixed:Int)+((i:Int):Int))]))]))) Ap fun o8 cp8=>⟨AB,AS,?_⟩
   exact CY tab 1 [] O (Cu (FR [2] 1 ⟨i+1,o6,cp6,o8,cp8⟩ O Au (e1:=⟨we (H9 (us++(Bo ds y1).2.2.1.take i++[(.mk x1k x1i x1n x1l x1s:Tm)]) (by rw[Iu hx1,List.append_assoc])),we (FQ (f:=Dd) (pl++De y (Bo ds y1).1.fixed i++([(y.1,(y.2++[((((Bo ds y1).1).fixed:Int)+((i:Int):Int))]))])) (by rw[Jl,List.append_assoc])),we O,Aw⟩) (e2:=wl (oe O) (wl (oe O) (wl (oe O) (wl (Eo (f:=Dd) (pl++De y (Bo ds y1).1.fixed i++([(y.1,(y.2++[((((Bo ds y1).1).fixed:Int)+((i:Int):Int))]))])) (by rw[Jl,List.append_assoc])) (wl (Gw (us++(Bo ds y1).2.2.1.take i++[(.mk x1k x1i x1n x1l x1s:Tm)]) (by rw[Iu hx1,List.append_assoc])) (wl (oe O) (wl (oe O) (wl (oe O) (wl (oe O) (Ie))))))))))))
  refine DH [0] O ?_;exact FR [0] 2 ⟨k1,(nW x.name w.branches).1,us++(Bo ds y1).2.2.1,pl++De y (Bo ds y1).1.fixed (Bo ds y1).2.2.1.length,o4,cp4,o5,cp5⟩ O (⟨hC1,hL.next h2.g (hL.ok _ (List.mem_of_getElem? hy1)) hcs hbs,hW.next h2.g hy1 hy hcs hbs hL.tok⟩) (e1:=⟨we (H9 (us++(Bo ds y1).2.2.1.take i) (by rw[O5 Au])),we (FQ (f:=Dd) (pl++De y (Bo ds y1).1.fixed i) (by rw[show i=(Bo ds y1).2.2.1.length from by omega])),Aw⟩) (e2:=wl (oe O) (wl (Eo (f:=Dd) (pl++De y (Bo ds y1).1.fixed i) (by rw[show i=(Bo ds y1).2.2.1.length from by omega])) (wl (Gw (us++(Bo ds y1).2.2.1.take i) (by rw[O5 Au])) (wl (oe O) (wl (oe O) (wl (oe O) (wl (oe O) (Ie))))))))
 have hk1:=c1;have hLl:=hL.len;rw[aJ hk1] at hC1;refine DH [0] O (A2 [1] O (Bq (i:=0) CN O O (Fo _) (A7 _)) (CQ [2,5] O (Qx w.body gl (Bu.1 (L7 hL.tok)).nd (Bu.1 (L7 hL.tok)).vp (by have:=Fs (L7 hL.tok);omega) hgl.2.1 hgl.2.2.1) (Bp [3] O (Az Ba O) fun b24=>?_)));refine BC [4,0,1] rfl ?_ ?_<;>intro c2
 ·rw[J0 (h:=(.mk gk gi gn gl gs:Tm)) c2] at hC1;refine CK [3,4,0] O (A5 (BE (i:=4) O) (BP (A9 [0] O (Bg [4] [7] O O ⟨⟨_,_⟩,G1 hC1.symm,O,O⟩))))
 obtain⟨hb1,hb2,hb3,hb4⟩:=Xc (by rw[hC1];exact hns) c2;rw[hb4] at hC1;have hn3:=hns;rw[←hC1] at hn3;refine CK [0] O (A5 (CM (i:=3) [10] O (DA ⟨O,Aw⟩)) ?_);obtain⟨e,he⟩ | ⟨⟨z,n2⟩,hz⟩:=NC (K7 s (CA ((BU w.body gl).1) us.reverse 0))
 ·refine SD ((fun _=> .p (.iface 178 .unit)) e) 3 [.val (.ptr m 0),.val (.agg ((BD ((BU w.body gl).1)).map .p)),.val (.p (.lst (A6 us))),.val (.p .any),.val (.p (.lst (A6 a))),.val (.ptr b6 (0+6)),.val (.p (I f.arity)),.val (.p (.lst (A6 (a.drop ((f.arity:Int).toNat))))),.val (.p .any),.val (.p .any),.val (.p .any)] Oq O Ap O Aw (fun _ _=>by exact⟨rfl,_,List.nil_sublist _,⟨_,by rw[←hC1];exact S4 hn3 he,rfl⟩⟩) ?_;exact DY O O (fun Bs=>Bj O) (DY O O (fun Bs=>Cy (i:=Bs.length+0) CN O (EB O) Am) (DY O O (fun Bs=>Bj O) (Xg (mkp:=(fun _=> .p (.iface 178 .unit))) (e:=e) [6] he O O (.inl ⟨O,O,O⟩) (eK m ds s ((BU w.body gl).1) us h3 hb1 hb2 Au) ⟨_,_,O,O,O⟩ As (aw (we O) (aw (we O) (aw (we O) (HW)))) (DY O O (fun Bs=>Bj O) (DY O O (fun Bs=>BG Pd O O) (DY O O (fun Bs=>Ax (i:=Bs.length+4) Dz O (EB O) (C9 _)) (DY O O (fun Bs=>Cn (lo:=(f.arity:Int).toNat) BT O (CX (Bd _)) ⟨_,pI Au⟩ O AZ (Nat.le_refl _) (ML a ((f.arity:Int).toNat))) (Iz O O Ap (Iz O O Ap (Iz O O Ap XE))))))))))
 rw[S8 hn3 hz] at hC1;refine Pp [.box b24 ((BD ((BU w.body gl).1)).map .p),.box b13 ((EC w).map .p),.vec o3 2 (List.map Dd pl) cp3,.box b8 [.p (I 0),.p (I 0),.p (.str ⟨#[]⟩),.p (.nils),.p (.nils)],.box b6 ((Iy f).map .p),.box b5 [.p (I gk),.p (I gi),.p (.str gn),.p (.lst (List.map B4 gl)),.p (.lst (A6 gs))],.box m [.p (.lst (List.map B0 ds)),.p (I n2)]] 3 [.val (.ptr m 0),.val (.agg ((BD ((BU w.body gl).1)).map .p)),.val (.p (.lst (A6 us))),.val (.agg ((BD z).map .p)),.val (.p (.lst (A6 a))),.val (.ptr b6 (0+6)),.val (.p (I f.arity)),.val (.p (.lst (A6 (a.drop ((f.arity:Int).toNat))))),.val (.agg ((BD (apply z (a.drop ((f.arity:Int).toNat)))).map .p))] [.p .any,.p (.bool true)] [] Oq O Ap Ap Ap O (Ca O O (fun Bs=>Bj O) ?_);refine MC O O O (fun Bs=>Cy (i:=Bs.length+0) CN O (EB O) Am) (fun _ Bs=>Cy (i:=Bs.length+0) CN O (EB O) Am) (Ca O O (fun Bs=>Bj O) (Ts O O (fun Bs=>Mu [6] O (.inl ⟨O,O,O⟩) (Wl hz (eK m ds s ((BU w.body gl).1) us h3 hb1 hb2 Au)) ⟨_,_,O,O,O⟩ As O (aw (we O) (aw (we O) (aw (we O) (HW))))) (Ca O O (fun Bs=>Bj O) (Ca O O (fun Bs=>BG Pd O O) (MC O O O (fun Bs=>Ax (i:=Bs.length+4) Dz O (EB O) (C9 _)) (fun _ Bs=>Ax (i:=Bs.length+4) Dz O (EB O) (C9 _)) (Ca O O (fun Bs=>Cn (lo:=(f.arity:Int).toNat) BT O (CX (Bd _)) ⟨_,pI Au⟩ O AZ (Nat.le_refl _) (ML a ((f.arity:Int).toNat))) (Ca O O (fun Bs=>BF O O (Fj z (a.drop ((f.arity:Int).toNat)) Ab) O) ?_)))))));refine KQ (Ht [.box b24 ((BD ((BU w.body gl).1)).map .p),.box b13 ((EC w).map .p),.vec o3 2 (List.map Dd pl) cp3,.box b8 ((BD (apply z (a.drop ((f.arity:Int).toNat)))).map .p),.box b6 ((Iy f).map .p),.box b5 [.p (I gk),.p (I gi),.p (.str gn),.p (.lst (List.map B4 gl)),.p (.lst (A6 gs))],.box m [.p (.lst (List.map B0 ds)),.p (I n2)]] O (DX (i:=3) CN O O O Am Ag (Gc _)) (Ht [.box b24 ((BD ((BU w.body gl).1)).map .p),.box b13 ((EC w).map .p),.vec o3 2 (List.map Dd pl) cp3,.box b8 ((BD (apply z (a.drop ((f.arity:Int).toNat)))).map .p),.box b6 ((Iy f).map .p),.box b5 [.p (I gk),.p (I gi),.p (.str gn),.p (.lst (List.map B4 gl)),.p (.lst (A6 gs))],.box m [.p (.lst (List.map B0 ds)),.p (I n2)]] O (H6 O) (Ob (Cu (A9 [0] O (Bg [3] [6] O O ⟨⟨_,_⟩,G1 hC1.symm,O,O⟩))))))
end Go.Proofs.YtldfmjoncbjldaaGreat
namespace Go.Eu
open Go.Abs
def Hz (E:List B8) {σ:Type}(S:Sys σ) (n:Nat) (h:Tm) (a:List Tm) (s:σ):Out (Option Tm×σ):=match Gy E h with
 | none=> .ok (none,s)
 | some x =>
  if x.kind=1 then EL S (CR E x.decl) h a s
  else if x.kind=5∧(a.length:Int) > Bv (CR E x.decl) then match Ce E (a.getD (Bv (CR E x.decl)).toNat default) with
   | some _=>ES E S (CR E x.decl) h a (a.getD (Bv (CR E x.decl)).toNat default) s
   | none=>(Dg E S n s (a.getD (Bv (CR E x.decl)).toNat default)).bind fun r=>match r.1 with
    | none=> .ok (none,r.2)
    | some y=> .ok (some (apply h (a.set (Bv (CR E x.decl)).toNat y)),r.2)
  else if x.kind=6∧(a.length:Int)≥(Gk (CR E x.decl) x.item).arity then
   Fq E S (Dg E S n) h (Gk (CR E x.decl) x.item).arity a n (Gk (CR E x.decl) x.item).tree (a.take (Gk (CR E x.decl) x.item).arity.toNat) (P1 (Gk (CR E x.decl) x.item).arity.toNat) s
  else .ok (none,s)
section
variable {E:List B8}{σ:Type}{S:Sys σ}{n:Nat}{h:Tm}{a:List Tm}{s:σ}{d:B8}{x:Tm}
def tZ (h:Tm) (a:List Tm) (k:Nat) (r:Option Tm×σ):Out (Option Tm×σ):=match r.1 with
 | none=> .ok (none,r.2)
 | some y=> .ok (some (apply h (a.set k y)),r.2)
theorem ja {k:Nat}{r:Option Tm×σ}(hr:r.1.isSome=false):tZ h a k r= .ok (none,r.2):=by
 obtain⟨q,s⟩:=r;cases q with
 | none=>rfl
 | some x=>cases hr
theorem kh {k:Nat}{r:Option Tm×σ}(hr:r.1.isSome=true):tZ h a k r= .ok (some (apply h (a.set k (r.1.getD BN))),r.2):=by
 obtain⟨q,s⟩:=r;cases q with
 | none=>cases hr
 | some x=>rfl
theorem YL (hu:U1 E h=false):Hz E S n h a s= .ok (none,s):=by
 unfold Hz;rw[Di,hu];simp
section
variable (hu:U1 E h=true) (hd:E[(BY E h.name).1.decl.toNat]?=some d)
include hu hd
theorem ek (hk:(BY E h.name).1.kind=1):Hz E S n h a s=EL S d h a s:=by
 unfold Hz;rw[Di,hu,if_pos rfl];simp only[if_pos hk,CR,CO hd]
theorem jy (hk:(BY E h.name).1.kind=5) (hl:(a.length:Int)≤Bv d):Hz E S n h a s= .ok (none,s):=by
 unfold Hz;rw[Di,hu,if_pos rfl];simp only[CR,CO hd];rw[if_neg Au,if_neg Au,if_neg Au]
theorem Z6 (hk:(BY E h.name).1.kind=5) (hl:¬(a.length:Int)≤Bv d) (hx:a[(Bv d).toNat]?=some x) {q:B8×Int×List Tm}(hc:Ce E x=some q):Hz E S n h a s=ES E S d h a x s:=by
 unfold Hz;rw[Di,hu,if_pos rfl];simp only[CR,CO hd];rw[if_neg Au,if_pos ⟨hk,by omega⟩,CO hx];simp only[hc]
theorem Ym (hk:(BY E h.name).1.kind=5) (hl:¬(a.length:Int)≤Bv d) (hx:a[(Bv d).toNat]?=some x) (hc:Ce E x=none):Hz E S n h a s=(Dg E S n s x).bind (tZ h a (Bv d).toNat):=by
 unfold Hz;rw[Di,hu,if_pos rfl];simp only[CR,CO hd];rw[if_neg Au,if_pos ⟨hk,by omega⟩,CO hx];simp only[hc];rfl
theorem da {f:I9}(hk:(BY E h.name).1.kind=6) (hf:d.funs[(BY E h.name).1.item.toNat]?=some f) (hl:f.arity≤(a.length:Int)):Hz E S n h a s=Fq E S (Dg E S n) h f.arity a n f.tree (a.take f.arity.toNat) (P1 f.arity.toNat) s:=by
 unfold Hz;rw[Di,hu,if_pos rfl];simp only[CR,CO hd,Gk,CO hf];rw[if_neg Au,if_neg Au,if_pos ⟨hk,by omega⟩]
theorem kO {f:I9}(hk:(BY E h.name).1.kind=6) (hf:d.funs[(BY E h.name).1.item.toNat]?=some f) (hl:¬f.arity≤(a.length:Int)):Hz E S n h a s= .ok (none,s):=by
 unfold Hz;rw[Di,hu,if_pos rfl];simp only[CR,CO hd,Gk,CO hf];rw[if_neg Au,if_neg Au,if_neg Au]
theorem l6 (h1:(BY E h.name).1.kind≠1) (h5:¬((BY E h.name).1.kind=5∧(a.length:Int) > Bv d)) (h6:¬((BY E h.name).1.kind=6∧(a.length:Int)≥(Gk d (BY E h.name).1.item).arity)):Hz E S n h a s= .ok (none,s):=by
 unfold Hz;rw[Di,hu,if_pos rfl];simp only[CR,CO hd];rw[if_neg h1,if_neg h5,if_neg h6]
omit hd
theorem uY (h1:(BY E h.name).1.kind≠1) (h5:(BY E h.name).1.kind≠5) (h6:(BY E h.name).1.kind≠6):Hz E S n h a s= .ok (none,s):=by
 unfold Hz;rw[Di,hu,if_pos rfl];simp only;rw[if_neg h1,if_neg Au,if_neg Au]
end
end
section
variable {E:List B8}{σ:Type}{S:Sys σ}{n:Nat}{t:Tm}{s:σ}{X:Out (Option Tm×σ)}
theorem S9 (h:Dg E S n s t=X) (hX:X≠ .stuck):∃k,n=k+1:=by
 cases n with
 | zero=>rw[Dg] at h;exact absurd h.symm hX
 | succ k=>exact⟨k,rfl⟩
theorem fJ (h:Dg E S (n+1) s t=X) (hX:X≠ .stuck):okB t=true:=by
 rw[Dg] at h;split at h
 ·exact absurd h.symm hX
 rename_i hc;simpa using hc
section
variable (ho:okB t=true)
include ho
theorem Sa (hk:(Ay t).1.kind=5) (hl:(Ay t).2.length=0):Dg E S (n+1) s t= .ok (none,s):=by
 rw[Dg,if_neg (by simp[ho]),if_pos hk,if_pos hl]
theorem W7 {b:Tm}(hk:(Ay t).1.kind=5) (hl:(Ay t).2.length≠0) (hb:(Ay t).1.kids[1]?=some b) :
  Dg E S (n+1) s t=S.put s (CA b ((Ay t).2.take 1) 0) fun x s'=> .ok (some (apply x ((Ay t).2.drop 1)),s'):=by
 rw[Dg,if_neg (by simp[ho]),if_pos hk,if_neg hl,KG,hb]
theorem XV {v b:Tm}(hk:(Ay t).1.kind=11) (hv:(Ay t).1.kids[1]?=some v) (hb:(Ay t).1.kids[2]?=some b) :
  Dg E S (n+1) s t=S.put s (CA b [v] 0) fun x s'=> .ok (some (apply x (Ay t).2),s'):=by
 rw[Dg,if_neg (by simp[ho]),if_neg Au,if_pos hk,Oj,hv,hb]
def sg (h:Tm) (a:List Tm) (r:Option Tm×σ):Out (Option Tm×σ):=match r.1 with
 | none=> .ok (none,r.2)
 | some x=> .ok (some (apply (Ha h.kind x) a),r.2)
theorem TT {p q:Tm}(hk:(Ay t).1.kind=9∨(Ay t).1.kind=10) (hp:(Ay t).1.kids[0]?=some p) (h8:p.kind=8) (hq:p.kids[(1+(Ay t).1.kind - 9).toNat]?=some q) :
  Dg E S (n+1) s t=S.put s (q,0) fun x s'=> .ok (some (apply x (Ay t).2),s'):=by
 rw[Dg,if_neg (by simp[ho]),if_neg Au,if_neg Au,if_pos hk,hp];simp only;rw[if_pos h8,Je,hq]
theorem UE {p:Tm}(hk:(Ay t).1.kind=9∨(Ay t).1.kind=10) (hp:(Ay t).1.kids[0]?=some p) (h8:p.kind≠8) :
  Dg E S (n+1) s t=(Dg E S n s p).bind (sg (Ay t).1 (Ay t).2):=by
 rw[Dg,if_neg (by simp[ho]),if_neg Au,if_neg Au,if_pos hk,hp];simp only;rw[if_neg h8];rfl
theorem Nv (hk:(Ay t).1.kind=3):Dg E S (n+1) s t=Hz E S n (Ay t).1 (Ay t).2 s:=by
 rw[Dg,if_neg (by simp[ho]),if_neg Au,if_neg Au,if_neg Au,if_pos hk];rfl
theorem ay (h1:(Ay t).1.kind≠5) (h2:(Ay t).1.kind≠11) (h3:(Ay t).1.kind≠9) (h4:(Ay t).1.kind≠10) (h5:(Ay t).1.kind≠3):Dg E S (n+1) s t= .ok (none,s):=by
 rw[Dg,if_neg (by simp[ho]),if_neg h1,if_neg h2,if_neg Au,if_neg h5]
end
theorem mi {h:Tm}{a:List Tm}{r:Option Tm×σ}(hr:r.1.isSome=false):sg h a r= .ok (none,r.2):=by
 obtain⟨q,s⟩:=r;cases q with
 | none=>rfl
 | some x=>cases hr
theorem jr {h:Tm}{a:List Tm}{r:Option Tm×σ}(hr:r.1.isSome=true):sg h a r= .ok (some (apply (Ha h.kind (r.1.getD BN)) a),r.2):=by
 obtain⟨q,s⟩:=r;cases q with
 | none=>cases hr
 | some x=>rfl
end
section
variable {E:List B8}{σ:Type}{S:Sys σ}{n:Nat}{t:Tm}{s:σ}{r:Tm×σ}{d:B8}{X:Out (Option Int×σ)}
section
variable (hk:(Ay r.1).1.kind=3) (hu:U1 E (Ay r.1).1=true) (ho:S.over r.2=false) (hd:E[(BY E (Ay r.1).1.name).1.decl.toNat]?=some d)
include hk hu ho
include hd
end
end
section
variable {E:List B8}{σ:Type}{S:Sys σ}{n:Nat}{t:FV}{a:List Tm}{s:σ}
end
end Go.Eu
