/- Part of the proofs: an abstract program logic, plain models and contracts of functions. -/
import Derived.Test.YtajnpndfkbnkoaaGreatPe
import Derived.Test.YtajnpndfkbnkoaaGreatPd
import Derived.Test.YtajnpndfkbnkoaaGreatPc
import Derived.Test.YtajnpndfkbnkoaaGreatPb
set_option linter.unusedVariables false
set_option linter.unusedSimpArgs false
set_option maxRecDepth 100000
namespace Go.Proofs.YtajnpndfkbnkoaaGreat
open Go.Abs Go.Eu
set_option maxHeartbeats 2000000 in
theorem Qv:EE Tryz.prog 6 [] (.p (.bool true)):=by
 have ⟨x,hx⟩:=Ap (l:=JJ) (i:=2) Ae;obtain⟨xy,xn,xv,xc⟩:=x;obtain⟨xyk,xyi,xyn,xyl,xys⟩:=xy;obtain⟨xvk,xvi,xvn,xvl,xvs⟩:=xv;refine Db Tryz.func6 O (De [0] O (JG (M:=⟨169,mk [],[],[]⟩) (Ds Ah (List.Sublist.refl _)) (BT (De [1] O ?_))));refine JG (M:=⟨169,mk [],[],[]⟩) (Ds Ah (List.Sublist.refl _)) (BT (De [1] O ?_));refine JG (M:=⟨169,mk [(1,.p (.fn 18))],[],[]⟩) (Ds ⟨O,Ah⟩ (List.Sublist.refl _)) (BT (De [1] O ?_));refine JG (M:=⟨169,mk [(1,.p (.fn 18)),(2,.p (.fn 19))],[],[]⟩) (Ds ⟨O,O,Ah⟩ (List.Sublist.refl _)) (BT (DR [1] O (Am Bx O) fun b3=>?_));refine De [1,0,0] O (JG (M:=⟨169,mk [(1,.p (.fn 18)),(2,.p (.fn 19)),(3,.ptr b3 0)],[.box b3 [.p (I 3),.p (I 0),.p (.str ⟨#[78,97,116]⟩),.p (.nils),.p (.nils)]],[]⟩) (Ds ⟨O,O,O,Ah⟩ (List.Sublist.refl _)) (BT (D5 [1] O ?_)));refine Rj (M:=⟨169,mk [(1,.p (.fn 18)),(2,.p (.fn 19)),(3,.ptr b3 0),(4,.p (.fn 21))],[.box b3 [.p (I 3),.p (I 0),.p (.str ⟨#[78,97,116]⟩),.p (.nils),.p (.nils)]],[]⟩) (Ds ⟨O,O,O,O,Ah⟩ (List.Sublist.refl _)) (CF (Jf [0] [] O ?_));refine DB [5,0,0] O (Aw O (fun _=>BM O O (HI 0) O) Ah (Aw O (fun _=>Ay Bc Bx O O O O O) Ah (Aw O (fun _=>BM O O (Zz ) O) Ah (Aw O (fun _=>BM O O (ZL ) O) Ah (Aw O (fun _=>Ay Bc Bx O O O O O) Ah (DB [4,0] O (Aw O (fun _=>Ay IB UD O O O O O) Ah (GU [1] O (De [0] O ?_)))))))));refine JG (M:=⟨169,mk [(1,.p (.fn 18)),(2,.p (.fn 19)),(4,.p (.fn 21)),(5,.p (.lst (List.map B5 ([(Mv.mk (.mk 3 0 ⟨#[78,97,116]⟩ [] []:Tm) true (.mk 5 0 ⟨#[]⟩ [] ([(.mk 3 0 ⟨#[78,97,116]⟩ [] []:Tm),(.mk 4 0 ⟨#[]⟩ [] ([(.mk 3 0 ⟨#[115,117,99,99]⟩ [] []:Tm),(.mk 4 0 ⟨#[]⟩ [] [(.mk 12 1 ⟨#[]⟩ [] []:Tm),(.mk 0 0 ⟨#[]⟩ [] []:Tm)]:Tm)]):Tm)]):Tm) false),(Mv.mk (.mk 3 0 ⟨#[78,97,116]⟩ [] []:Tm) false (.mk 0 0 ⟨#[]⟩ [] []:Tm) false)]))))],[.box b3 [.p (I 3),.p (I 0),.p (.str ⟨#[78,97,116]⟩),.p (.nils),.p (.nils)]],[]⟩) (Ds ⟨O,O,O,O,Ah⟩ (List.Sublist.refl _)) (BT (Cc [3] O (HI 3) ?_))
 refine Ak [0] O (Ay Bc Bx O O O O O) (Cc [0] O (Um ) (Cc [0] O (Y5 ) (DR [3] O (Am Bx O) fun b6=>De [2,0,1] O (JG (M:=⟨169,mk [(1,.p (.fn 18)),(2,.p (.fn 19)),(4,.p (.fn 21)),(5,.p (.lst (List.map B5 ([(Mv.mk (.mk 3 0 ⟨#[78,97,116]⟩ [] []:Tm) true (.mk 5 0 ⟨#[]⟩ [] ([(.mk 3 0 ⟨#[78,97,116]⟩ [] []:Tm),(.mk 4 0 ⟨#[]⟩ [] ([(.mk 3 0 ⟨#[115,117,99,99]⟩ [] []:Tm),(.mk 4 0 ⟨#[]⟩ [] [(.mk 12 1 ⟨#[]⟩ [] []:Tm),(.mk 0 0 ⟨#[]⟩ [] []:Tm)]:Tm)]):Tm)]):Tm) false),(Mv.mk (.mk 3 0 ⟨#[78,97,116]⟩ [] []:Tm) false (.mk 0 0 ⟨#[]⟩ [] []:Tm) false)])))),(6,.ptr b6 0),(7,.p (I 0))],[.box b6 ((BB VL).map .p),.box b3 [.p (I 3),.p (I 0),.p (.str ⟨#[78,97,116]⟩),.p (.nils),.p (.nils)]],[]⟩) (Ds ⟨O,O,O,O,O,O,Ah⟩ (List.Sublist.refl _)) (BT (Cc [3] O (HI 3) ?_))))));refine Ak [0] O (Ay Bc Bx O O O O O) (Cc [0] O (Um ) (Cc [0] O (ZQ ) (De [5] O (JG (M:=⟨169,mk [(1,.p (.fn 18)),(2,.p (.fn 19)),(4,.p (.fn 21)),(5,.p (.lst (List.map B5 ([(Mv.mk (.mk 3 0 ⟨#[78,97,116]⟩ [] []:Tm) true (.mk 5 0 ⟨#[]⟩ [] ([(.mk 3 0 ⟨#[78,97,116]⟩ [] []:Tm),(.mk 4 0 ⟨#[]⟩ [] ([(.mk 3 0 ⟨#[115,117,99,99]⟩ [] []:Tm),(.mk 4 0 ⟨#[]⟩ [] [(.mk 12 1 ⟨#[]⟩ [] []:Tm),(.mk 0 0 ⟨#[]⟩ [] []:Tm)]:Tm)]):Tm)]):Tm) false),(Mv.mk (.mk 3 0 ⟨#[78,97,116]⟩ [] []:Tm) false (.mk 0 0 ⟨#[]⟩ [] []:Tm) false)])))),(6,.ptr b6 0),(7,.p (I 0)),(8,.p (.lst (List.map CX [1]))),(9,.p (I 0))],[.box b6 ((BB VL).map .p),.box b3 [.p (I 3),.p (I 0),.p (.str ⟨#[78,97,116]⟩),.p (.nils),.p (.nils)]],[]⟩) (Ds ⟨O,O,O,O,O,O,O,O,Ah⟩ (List.Sublist.refl _)) (BT (Cc [2] O (HI 0) ?_))))));refine Cc [1] O (HI 2) (Ak [0] O (Ay Bc Bx O O O O O) (Cc [0] O (XV ) (Cc [0] O (Xv ) (De [7] O ?_))))
 refine JG (M:=⟨169,mk [(1,.p (.fn 18)),(2,.p (.fn 19)),(4,.p (.fn 21)),(5,.p (.lst (List.map B5 ([(Mv.mk (.mk 3 0 ⟨#[78,97,116]⟩ [] []:Tm) true (.mk 5 0 ⟨#[]⟩ [] ([(.mk 3 0 ⟨#[78,97,116]⟩ [] []:Tm),(.mk 4 0 ⟨#[]⟩ [] ([(.mk 3 0 ⟨#[115,117,99,99]⟩ [] []:Tm),(.mk 4 0 ⟨#[]⟩ [] [(.mk 12 1 ⟨#[]⟩ [] []:Tm),(.mk 0 0 ⟨#[]⟩ [] []:Tm)]:Tm)]):Tm)]):Tm) false),(Mv.mk (.mk 3 0 ⟨#[78,97,116]⟩ [] []:Tm) false (.mk 0 0 ⟨#[]⟩ [] []:Tm) false)])))),(6,.ptr b6 0),(7,.p (I 0)),(8,.p (.lst (List.map CX [1]))),(9,.p (I 0)),(10,.p (I 1)),(11,.p (.lst (List.map CX [0,2]))),(12,.p (.bool true))],[.box b6 ((BB VL).map .p),.box b3 [.p (I 3),.p (I 0),.p (.str ⟨#[78,97,116]⟩),.p (.nils),.p (.nils)]],[]⟩) (Ds ⟨O,O,O,O,O,O,O,O,O,O,O,Ah⟩ (List.Sublist.refl _)) (BT (Cc [2] O (HI 0) ?_));refine Cc [1] O (HI 0) (Ak [0] O (Ay Bc Bx O O O O O) (Cc [0] O (YJ ) (Cc [0] O (X4 ) (De [7] O ?_))));refine JG (M:=⟨169,mk [(1,.p (.fn 18)),(2,.p (.fn 19)),(4,.p (.fn 21)),(5,.p (.lst (List.map B5 ([(Mv.mk (.mk 3 0 ⟨#[78,97,116]⟩ [] []:Tm) true (.mk 5 0 ⟨#[]⟩ [] ([(.mk 3 0 ⟨#[78,97,116]⟩ [] []:Tm),(.mk 4 0 ⟨#[]⟩ [] ([(.mk 3 0 ⟨#[115,117,99,99]⟩ [] []:Tm),(.mk 4 0 ⟨#[]⟩ [] [(.mk 12 1 ⟨#[]⟩ [] []:Tm),(.mk 0 0 ⟨#[]⟩ [] []:Tm)]:Tm)]):Tm)]):Tm) false),(Mv.mk (.mk 3 0 ⟨#[78,97,116]⟩ [] []:Tm) false (.mk 0 0 ⟨#[]⟩ [] []:Tm) false)])))),(6,.ptr b6 0),(7,.p (I 0)),(8,.p (.lst (List.map CX [1]))),(9,.p (I 0)),(10,.p (I 1)),(11,.p (.lst (List.map CX [0,2]))),(12,.p (.bool true)),(15,.p (.bool false))],[.box b6 ((BB VL).map .p),.box b3 [.p (I 3),.p (I 0),.p (.str ⟨#[78,97,116]⟩),.p (.nils),.p (.nils)]],[]⟩) (Ds ⟨O,O,O,O,O,O,O,O,O,O,O,O,Ah⟩ (List.Sublist.refl _)) ?_;refine BT (Ak [1] O (Ay RS Yg O O O O O) ?_);refine DR [1] O (Am Bx O) fun b16=>D5 [1,0,0] O ?_
 refine Rj (M:=⟨169,mk [(1,.p (.fn 18)),(2,.p (.fn 19)),(4,.p (.fn 21)),(5,.p (.lst (List.map B5 ([(Mv.mk (.mk 3 0 ⟨#[78,97,116]⟩ [] []:Tm) true (.mk 5 0 ⟨#[]⟩ [] ([(.mk 3 0 ⟨#[78,97,116]⟩ [] []:Tm),(.mk 4 0 ⟨#[]⟩ [] ([(.mk 3 0 ⟨#[115,117,99,99]⟩ [] []:Tm),(.mk 4 0 ⟨#[]⟩ [] [(.mk 12 1 ⟨#[]⟩ [] []:Tm),(.mk 0 0 ⟨#[]⟩ [] []:Tm)]:Tm)]):Tm)]):Tm) false),(Mv.mk (.mk 3 0 ⟨#[78,97,116]⟩ [] []:Tm) false (.mk 0 0 ⟨#[]⟩ [] []:Tm) false)])))),(6,.ptr b6 0),(7,.p (I 0)),(8,.p (.lst (List.map CX [1]))),(9,.p (I 0)),(10,.p (I 1)),(11,.p (.lst (List.map CX [0,2]))),(12,.p (.bool true)),(15,.p (.bool false)),(16,.ptr b16 0)],[.box b16 [.p (I 2),.p (I 0),.p (.str ⟨#[]⟩),.p (.lst (List.map Dd ([(DK.mk 0 [])]))),.p (.nils)],.box b6 ((BB VL).map .p),.box b3 [.p (I 3),.p (I 0),.p (.str ⟨#[78,97,116]⟩),.p (.nils),.p (.nils)]],[]⟩) (Ds ⟨O,O,O,O,O,O,O,O,O,O,O,O,O,Ah⟩ (List.Sublist.refl _)) ?_;refine CF (Jf [0] [12] O ?_);refine DB [3,0] O (Aw O (fun _=>BM O O (HI 0) O) Ah (Aw O (fun _=>Ay Bc Bx O O O O O) Ah (Aw O (fun _=>Be O) Ah (Aw O (fun _=>BM O O (HI 1) O) Ah (Aw O (fun _=>BM O O (ZM ) O) Ah (DB [4] O (Nk [] O O (Am Bx O) Ab fun b18=>⟨AB,Ah,?_⟩)))))));refine GU [3,0,1] O (De [0] O ?_);refine JG (M:=⟨169,mk [(1,.p (.fn 18)),(2,.p (.fn 19)),(4,.p (.fn 21)),(6,.ptr b6 0),(7,.p (I 0)),(8,.p (.lst (List.map CX [1]))),(9,.p (I 0)),(10,.p (I 1)),(11,.p (.lst (List.map CX [0,2]))),(12,.p (.bool true)),(15,.p (.bool false)),(16,.ptr b16 0),(17,.p (.lst (List.map B5 JJ))),(18,.ptr b18 0),(19,.p (I 0))],[.box b18 ((BB Kd).map .p),.box b16 [.p (I 2),.p (I 0),.p (.str ⟨#[]⟩),.p (.lst (List.map Dd ([(DK.mk 0 [])]))),.p (.nils)],.box b6 ((BB VL).map .p),.box b3 [.p (I 3),.p (I 0),.p (.str ⟨#[78,97,116]⟩),.p (.nils),.p (.nils)]],[]⟩) (Ds ⟨O,O,O,O,O,O,O,O,O,O,O,O,O,O,O,Ah⟩ (List.Sublist.refl _)) (BT (CD [1] O O (List.length_map _) ?_));refine BH [1] rfl ?_ ?_<;>intro c
 ·exact absurd c Ae
 refine D5 [0] O (Rj (M:=⟨169,mk [(1,.p (.fn 18)),(2,.p (.fn 19)),(4,.p (.fn 21)),(6,.ptr b6 0),(7,.p (I 0)),(8,.p (.lst (List.map CX [1]))),(9,.p (I 0)),(10,.p (I 1)),(11,.p (.lst (List.map CX [0,2]))),(12,.p (.bool true)),(15,.p (.bool false)),(16,.ptr b16 0),(17,.p (.lst (List.map B5 JJ))),(18,.ptr b18 0),(19,.p (I 0))],[.box b18 ((BB Kd).map .p),.box b16 [.p (I 2),.p (I 0),.p (.str ⟨#[]⟩),.p (.lst (List.map Dd ([(DK.mk 0 [])]))),.p (.nils)],.box b6 ((BB VL).map .p),.box b3 [.p (I 3),.p (I 0),.p (.str ⟨#[78,97,116]⟩),.p (.nils),.p (.nils)]],[]⟩) (Ds ⟨O,O,O,O,O,O,O,O,O,O,O,O,O,O,O,Ah⟩ (List.Sublist.refl _)) (CF (Jf [0] [9] O ?_)));refine DB [2,1] O (Aw O (fun _=>BM O O (HI 0) O) Ah (Aw O (fun _=>Be O) Ah (Aw O (fun _=>BM O O (HI 1) O) Ah (Aw O (fun _=>Ay Bc Bx O O O O O) Ah (Aw O (fun _=>Dx aB Bx O) Ah (Aw O (fun _=>Ay Bc Bx O O O O O) Ah (Aw O (fun _=>Dx aB Bx O) Ah (Nk [] O O (Am Bx O) Ab fun b20=>⟨AB,Ah,?_⟩))))))));refine GU [1,0,0] O (D5 [0] O ?_);refine Rj (M:=⟨169,mk [(1,.p (.fn 18)),(2,.p (.fn 19)),(4,.p (.fn 21)),(6,.ptr b6 0),(7,.p (I 0)),(8,.p (.lst (List.map CX [1]))),(9,.p (I 0)),(10,.p (I 1)),(11,.p (.lst (List.map CX [0,2]))),(12,.p (.bool true)),(15,.p (.bool false)),(17,.p (.lst (List.map B5 JJ))),(18,.ptr b18 0),(19,.p (I 0)),(20,.ptr b20 0)],[.box b20 [.p (I 6),.p (I 0),.p (.str ⟨#[]⟩),.p (.nils),.p (.lst (A0 ([(.mk 2 0 ⟨#[]⟩ ([(DK.mk 0 [])]) []:Tm),(.mk 6 0 ⟨#[]⟩ [] ([(.mk 0 0 ⟨#[]⟩ [] []:Tm),(.mk 0 1 ⟨#[]⟩ [] []:Tm)]):Tm)])))],.box b18 ((BB Kd).map .p),.box b16 [.p (I 2),.p (I 0),.p (.str ⟨#[]⟩),.p (.lst (List.map Dd ([(DK.mk 0 [])]))),.p (.nils)],.box b6 ((BB VL).map .p),.box b3 [.p (I 3),.p (I 0),.p (.str ⟨#[78,97,116]⟩),.p (.nils),.p (.nils)]],[]⟩) (Ds ⟨O,O,O,O,O,O,O,O,O,O,O,O,O,O,O,Ah⟩ (List.Sublist.refl _)) ?_;refine CF (Jf [0] [] O ?_)
 refine DB [7,3] O (BZ O (fun _=>BM O O (HI 3) O) Ah (BZ O (fun _=>Ay Bc Bx O O O O O) Ah (BZ O (fun _=>BM O O (ZS ) O) Ah (BZ O (fun _=>BM O O (bI ) O) Ah (BZ O (fun _=>BM O O (WH ) O) Ah (DB [7] O (BZ O (fun _=>Ay Hg Wf O O O O O) Ah (BZ O (fun _=>BM O O (aJ ) O) Ah (DB [14] O (BZ O (fun _=>Ay Hg Wf O O O O O) Ah (BZ O (fun _=>BM O O (Z9 ) O) Ah (DB [9,1] O (BZ O (fun _=>BM O O (HI 1) O) Ah (BZ O (fun _=>Be O) Ah (BZ O (fun _=>BM O O (HI 0) O) Ah (BZ O (fun _=>Ay Bc Bx O O O O O) Ah (BZ O (fun _=>BM O O (Xb ) O) Ah (BZ O (fun _=>BM O O (WU ) O) Ah (DB [3] O ?_)))))))))))))))))));refine BZ O (fun _=>Ao IB O O Af (Kt hx) (DH _)) Ah (BZ O (fun _=>CV dq O O) Ah (BZ O (fun _=>EA (cs:=[I xyk,I xyi,.str xyn,.lst (List.map Dd xyl),.lst (A0 xys)]) Bh O O O) Ah (DB [1,0] O (BZ O (fun _=>Hz O O (Hn _ (.mk xyk xyi xyn xyl xys:Tm) (.mk 6 0 ⟨#[]⟩ [] ([(.mk 2 0 ⟨#[]⟩ ([(DK.mk 0 [])]) []:Tm),(.mk 6 0 ⟨#[]⟩ [] ([(.mk 0 0 ⟨#[]⟩ [] []:Tm),(.mk 0 1 ⟨#[]⟩ [] []:Tm)]):Tm)]):Tm) (Nat.le_refl _) (Ul hx▸Qe.2.2.1)) (aw (we O) (aw (E9 O) (HY)))) Ah (GU [2] O (BF [0] O (B7 [] [] O O ⟨pB (A2 (Ul hx).symm),O⟩)))))))
end Go.Proofs.YtajnpndfkbnkoaaGreat
namespace Go.Eu
open Go.Abs
section
variable {TA:GZ→List Aj}{T0:List Aj}{nm:ByteArray}{d:B4}{i:Int}{j:Nat}
end
end Go.Eu
namespace Go.Proofs.YtajnpndfkbnkoaaGreat
open Go.Abs Go.Eu
theorem RT:∀(l:List ByteArray) (s:ByteArray),(l.length<9000000)→EE Tryz.prog 152 [.p (.lst (List.map FX l)),.p (.str s)] (.p (.bool (F8 l s))):=by
 intro l s h1;refine Db Tryz.func152 O ?_;refine F3 (α:=Nat) [2] [0,1] [] (fun i=>[(5,.p (I (i:Int)))]) (fun _=>[]) (fun i=>l.length - i) (fun i=>i≤l.length∧(∀j,j<i→∀y,l[j]?=some y→y≠s)) 0 O O O (⟨by omega,fun j h=>by omega⟩) ?_;rintro i hC
 try simp only at hC
 have ⟨hi,hC⟩:=hC;refine C ?_ ?_<;>intro c
 ·refine W ?_;intro x hx;refine BH [0] rfl ?_ ?_<;>intro c1
  ·exact U (k:=by rw[W2 hx (Gv (by simpa using c1))];try rfl)
  exact Fa [3] 0 (i+1) O (⟨by omega,Dg (p:=fun _ (y:ByteArray)=>y≠s) hC hx (fun e=>by subst e;simp at c1)⟩)
 refine C6 [0] O ?_;exact U (k:=by rw[WY fun j hj=>hC j Af];try rfl)
theorem _root_.Go.AE {α:Prop}(h:α:=by simp only[List.length_map,List.length_append,List.length_cons,List.length_nil,List.length_take];omega):α:=h
theorem Ja:∀(d:B4),(d.ctors.length<2000000)→(d.funs.length<2000000)→(d.name.size<2000000)→EE Tryz.prog 153 [.agg ((Bn d).map .p)] (.p (.lst (List.map FX (CA d)))):=by
 intro d h1 h2 h3;refine Db Tryz.func153 O (DT [0] O O fun b1=>Ak [2] O (Ai (i:=0) FV O O (Ch _)) (DM [2] 999999 [1,8] 9 (decide (d.kind=0∨d.kind=1∨d.kind=2)) O O ?_ ?_))
 ·refine BH [0] rfl ?_ ?_<;>intro c
  ·exact Bu [0] O (hr:=AH)
  refine C ?_ ?_<;>intro c1
  ·exact Bu [0] O (hr:=AH)
  exact Bu [2] O (hr:=AH)
 refine BH [0] rfl ?_ ?_<;>intro c
 ·refine W ?_;refine Ak [0] O (Ay GW aI O O O O O) ?_;exact U (k:=by rw[CA,if_pos (by simpa using c)];try rfl)
 refine C ?_ ?_<;>intro c1
 ·refine W ?_;refine De [0] O (Il O O (Iq (rows:=List.map FX [d.name]) GW aI O O O O O) fun b20 cp=>BT (F3 (α:=Nat×Option Nat×Nat) [2] [1] [0,1] (fun(i,o,cp1)=>[(3,.vs o (List.map FX (d.name::(d.ctors.take i).map I1.name)).length cp1),(4,.p (I (i:Int)))]) (fun(i,o,cp1)=>[(0,.vec o 1 (List.map FX (d.name::(d.ctors.take i).map I1.name)) cp1)]) (fun(i,o,cp1)=>d.ctors.length - i) (fun(i,o,cp1)=>i≤d.ctors.length) ⟨0,(some b20),cp⟩ O O O AO ?_));rintro⟨i,o,cp1⟩ hC
  try simp only at hC
  have hi:=hC;refine C ?_ ?_<;>intro c2
  ·refine W ?_;intro x hx;exact Ak [0] O (Ay GW aI O O O O O) (De [0] O (IQ O O (C9 (i:=0) (rows':=List.map FX [x.name]) GW GW aI O O O O O O (H4 _) AE (IY (f:=FX) (d.name::(d.ctors.take i).map I1.name) [x.name])) fun o1 cp2=>BT (Fa [4] 0 ⟨i+1,o1,cp2⟩ O Af (e1:=⟨we (NM (f:=FX) ((d.name::(d.ctors.take i).map I1.name)++[x.name]) (by simp[List.take_add_one,hx])),we O,Ah⟩) (e2:=wl (KW (f:=FX) ((d.name::(d.ctors.take i).map I1.name)++[x.name]) (by simp[List.take_add_one,hx])) (wl (oe O) (Js))))))
  refine C6 [0] O (W ?_);refine Ak [0] O (TZ O O (by have:(⟨#[46,114,101,99]⟩:ByteArray).size=4:=rfl;omega)) (Ak [0] O (Ay GW aI O O O O O) (De [0] O (IQ O O (C9 (i:=0) (rows':=List.map FX ([(d.name++⟨#[46,114,101,99]⟩)])) GW GW aI O O O O O O (H4 _) AE (IY (f:=FX) (d.name::(d.ctors.take i).map I1.name) ([(d.name++⟨#[46,114,101,99]⟩)]))) fun o1 cp2=>BT (D5 [1] O ?_))));refine BA (CH (i:=0) [42,2] O (ES ⟨O,O,Ah⟩)) ?_;refine CF (BF [0] O (B7 [] [] O O ⟨by rw[CA,if_neg (by simpa using c),if_pos (by simpa using c1),List.take_of_length_le Af];rfl,rfl⟩))
 refine C ?_ ?_<;>intro c2
 ·refine D5 [2] O (BA (IC (t:=5) (sz:=1) O) (CF (F3 (α:=Nat×Option Nat×Nat) [0] [1] [0,1] (fun(i,o,cp)=>[(5,.vs o (List.map FX ((d.funs.take i).map Ie.name)).length cp),(6,.p (I (i:Int)))]) (fun(i,o,cp)=>[(0,.vec o 1 (List.map FX ((d.funs.take i).map Ie.name)) cp)]) (fun(i,o,cp)=>d.funs.length - i) (fun(i,o,cp)=>i≤d.funs.length) ⟨0,none,0⟩ O O O AO ?_)));rintro⟨i,o,cp⟩ hC
  try simp only at hC
  have hi:=hC;refine C ?_ ?_<;>intro c3
  ·refine W ?_;intro x hx;exact Ak [0] O (Ay GW aI O O O O O) (De [0] O (IQ O O (C9 (i:=0) (rows':=List.map FX [x.name]) GW GW aI O O O O O O (H4 _) AE (IY (f:=FX) ((d.funs.take i).map Ie.name) [x.name])) fun o1 cp1=>BT (Fa [4] 0 ⟨i+1,o1,cp1⟩ O Af (e1:=⟨we (NM (f:=FX) (((d.funs.take i).map Ie.name)++[x.name]) (by simp[List.take_add_one,hx])),we O,Ah⟩) (e2:=wl (KW (f:=FX) (((d.funs.take i).map Ie.name)++[x.name]) (by simp[List.take_add_one,hx])) (wl (oe O) (Js))))))
  refine C6 [0] O (D5 [2] O (BA (CH (i:=0) [5,61,2] O (ES ⟨O,O,O,Ah⟩)) ?_));refine CF (BF [0] O (B7 [] [] O O ⟨by rw[CA,if_neg (by simpa using c),if_neg (by simpa using c1),if_pos (by simpa using c2),List.take_of_length_le Af];try rfl,rfl⟩))
 refine D5 [1] O (BA (Di 2) ?_);refine CF (BF [0] O (B7 [] [] O O ⟨by rw[CA,if_neg (by simpa using c),if_neg (by simpa using c1),if_neg (by simpa using c2)];try rfl,rfl⟩))
set_option maxHeartbeats 2000000 in
theorem QL:∀(d:B4) (ix:Int) (nm:ByteArray),(d.ctors.length<2000000)→(d.funs.length<2000000)→EE Tryz.prog 154 [.agg ((Bn d).map .p),.p (I ix),.p (.str nm)] (.agg ((GA (EF d ix nm)).map .p)):=by
 intro d ix nm h1 h2;refine Db Tryz.func154 O (DT [0] O O fun b3=>DR [0] O (Am LA O) fun b6=>Ak [2] O (Ai (i:=1) FV O O (B3 _)) (Ak [1] O (BY (i:=1) Bh O O (D8 _) (An _)) (Ak [0] O (Dx Uk LA (dh O O O)) (DR [0] O (Am LA O) fun b7=>Ak [2,0,1] O (Ai (i:=2) FV O O (Ch _)) ?_))));refine C ?_ ?_<;>intro c
 ·refine Ak [1] O (DS (i:=0) (ds:=(GA (GZ.mk 0 ix 0 d.params d.type)).map .p) FV O O O O O O O) ?_;exact U (k:=by rw[KL (.inl (by simpa using c)) (k:=0) (by simpa using c)];try rfl)
 refine C ?_ ?_<;>intro c1
 ·refine Ak [1] O (DS (i:=0) (ds:=(GA (GZ.mk 1 ix 0 d.params d.type)).map .p) FV O O O O O O O) ?_;exact U (k:=by rw[KL (.inr (.inl (by simpa using c1))) (k:=1) (by simpa using c1)];try rfl)
 refine C ?_ ?_<;>intro c2
 ·refine Ak [1] O (DS (i:=0) (ds:=(GA (GZ.mk 2 ix 0 d.params d.type)).map .p) FV O O O O O O O) ?_;exact U (k:=by rw[KL (.inr (.inr (by simpa using c2))) (k:=2) (by simpa using c2)];try rfl)
 refine C ?_ ?_<;>intro c3
 ·refine Ak [1] O (DS (i:=0) (ds:=(GA (GZ.mk 3 ix 0 d.params d.type)).map .p) FV O O O O O O O) (Ak [2] O (Ai (i:=2) Xm O O (Ec _)) (Ak [0] O (Jj O O) ?_));refine BH [0] rfl ?_ ?_<;>intro c4
  ·exact U (k:=by rw[V2 (by simpa using c3) (Gv (by simpa using c4))];try rfl)
  refine F3 (α:=Nat) [1] [1,2,3,6] [1,2] (fun i=>[(8,.p (I (i:Int)))]) (fun _=>[]) (fun i=>d.ctors.length - i) (fun i=>i≤d.ctors.length∧(∀j,j<i→∀y,d.ctors[j]?=some y→y.name≠nm)) 0 O O O (⟨by omega,fun j h=>by omega⟩) ?_;rintro i hC
  try simp only at hC
  have ⟨hi,hC⟩:=hC;refine C ?_ ?_<;>intro c5
  ·refine W ?_;intro x hx;refine BH [0] rfl ?_ ?_<;>intro c6
   ·refine Jf [0] [] O (DB [3] O (Cf (j:=1) O O O (fun H i hi=>Ai (i:=i) FV O hi (B3 _)) AB Ah (Aw O (fun _=>BL Og O O) Ah (Cf (j:=1) O O O (fun H i hi=>Ai (i:=i) HN O hi (Bw _)) AB Ah (Aw O (fun _=>Be O) Ah (Aw O (fun _=>Ao VG O O Af (JZ hx) (FD _)) Ah (Aw O (fun _=>CV Y8 O O) Ah (Aw O (fun _=>Cn Bh O (Ef _) (An _)) Ah (Aw O (fun _=>Dx Uk LA (R2 O O O O O)) Ah ?_)))))))));refine GU [1,0,1] O (BF [0] O (B7 [0] [] O O ⟨by rw[Tk (j:=i) (by simpa using c3) (fun h=>by subst h;simp at c4) hx (Gv (by simpa using c6)) hC],rfl⟩))
   exact Fa [3] 0 (i+1) O (⟨by omega,Dg (p:=fun _ (y:I1)=>y.name≠nm) hC hx (fun e=>by subst e;simp at c6)⟩)
  refine C6 [0] O (Ak [3] O (Ai (i:=1) FV O O (CO _)) (Ak [2] O (BY (i:=1) Bh O O (Dj _) (An _)) (Ak [0] O (Dx Uk LA (Zl O O O O)) ?_)));exact U (k:=by rw[VZ (by simpa using c3) (fun h=>by subst h;simp at c4) fun j hj=>hC j Af])
 refine F3 (α:=Nat) [1] [1,2,3,6,7] [0,1,2] (fun i=>[(9,.p (I (i:Int)))]) (fun _=>[]) (fun i=>d.funs.length - i) (fun i=>i≤d.funs.length∧(∀j,j<i→∀y,d.funs[j]?=some y→y.name≠nm)) 0 O O O (⟨by omega,fun j h=>by omega⟩) ?_;rintro i hC
 try simp only at hC
 have ⟨hi,hC⟩:=hC;refine C ?_ ?_<;>intro c4
 ·refine W ?_;intro x hx;refine BH [0] rfl ?_ ?_<;>intro c5
  ·refine Jf [0] [] O (DB [3] O (Cf (j:=2) O O O (fun H i hi=>Ai (i:=i) FV O hi (B3 _)) AB Ah (Aw O (fun _=>BL Og O O) Ah (Cf (j:=2) O O O (fun H i hi=>Ai (i:=i) FP O hi (Bb _)) AB Ah (Aw O (fun _=>Be O) Ah (Aw O (fun _=>Ao OU O O Af (G5 hx) (EW _)) Ah (Aw O (fun _=>CV Uq O O) Ah (Aw O (fun _=>Cn Bh O (Gi _) (An _)) Ah (Aw O (fun _=>Dx Uk LA (R2 O O O O O)) Ah ?_)))))))));refine GU [1,1,1] O (BF [0] O (B7 [1] [] O O ⟨by rw[Wc (j:=i) (not_or.2 ⟨(by simpa using c),not_or.2 ⟨(by simpa using c1),(by simpa using c2)⟩⟩) (by simpa using c3) hx (Gv (by simpa using c5)) hC];try rfl,rfl⟩))
  exact Fa [3] 0 (i+1) O (⟨by omega,Dg (p:=fun _ (y:Ie)=>y.name≠nm) hC hx (fun e=>by subst e;simp at c5)⟩)
 refine C6 [0] O ?_;exact U (k:=by rw[WX (not_or.2 ⟨(by simpa using c),not_or.2 ⟨(by simpa using c1),(by simpa using c2)⟩⟩) (by simpa using c3) fun j hj=>hC j Af];try rfl)
theorem OO:∀(ds:List B4) (nm:ByteArray),(HA ds)→EE Tryz.prog 103 [.p (.lst (List.map Bn ds)),.p (.str nm)] (.tup [.agg ((GA ((Cu ds nm).1)).map .p),.p (I ((Cu ds nm).2))]):=by
 intro ds nm h1;have hl:=h1.len;refine Db Tryz.func103 O ?_;refine W ?_;intro b4;refine F3 (α:=Nat) [0] [0,1,4] [0] (fun i=>[(6,.p (I (i:Int)))]) (fun _=>[]) (fun i=>ds.length - i) (fun i=>i≤ds.length∧(∀j,j<i→∀y,ds[j]?=some y→F8 (CA y) nm=false)) 0 O O O (⟨by omega,fun j h=>by omega⟩) ?_;rintro i hC
 try simp only at hC
 have ⟨hi,hC⟩:=hC;refine C ?_ ?_<;>intro c
 ·have ⟨x,hx⟩:=Ap (l:=ds) (i:=i) Af;have hD:=h1.all _ (List.mem_of_getElem? hx);have hcl:=hD.cl;have hfl:=hD.fl;refine F (Ja x hD.cl hD.fl hD.nm) ?_;refine F (RT (CA x) nm (by have:=KE x;omega)) ?_;refine BH [0] rfl ?_ ?_<;>intro c1
  ·refine F (QL x (i:Int) nm hD.cl hD.fl) ?_;exact U (k:=by rw[Vj hx hC (by simpa using c1)];try rfl)
  exact Fa [3] 0 (i+1) O (⟨by omega,Dg (p:=fun _ (y:B4)=>F8 (CA y) nm=false) hC hx (by simpa using c1)⟩)
 refine C6 [0] O ?_;refine D5 [3,0,0] O ?_;refine BA (CI (i:=0) O) ?_;refine CF (BF [0] O (B7 [0] [] O O ⟨by rw[TU fun j hj=>hC j Af];rfl,rfl⟩))
theorem ID:∀(t:Tm),(Nd t)→EE Tryz.prog 166 [.agg ((BB t).map .p)] (.p (.bool (PO t A3))):=by
 intro t h1;refine Db Tryz.func166 O (W ?_);intro b1;exact Ak [0] O (Hz O O (Hn _ t t0 (Nat.le_refl _) h1) (aw (we O) (aw (E9 O) (HY)))) R0
theorem Tc:∀(d:B4),(TR d)→EM Tryz.prog 124 [.agg ((Bn d).map .p)] (C5):=by
 intro d h1;refine Db Tryz.func124 O (DT [0] O O fun b1=>CS [1] 1 [1] 3 C5 O O ?_ ?_)
 ·refine Ak [2] O (Ai (i:=0) FV O O (CO _)) ?_;refine A9 [2] 9 rfl rfl ?_ ?_<;>intro g
  ·refine Ak [2] O (BY (i:=0) Bh O O (Dj _) (An _)) (Cc [0] O (ID d.recs.type (by first | exact h1.rt.nd | exact h1.vl.nd | exact h1.ty.nd)) ?_);refine A9 [2] 15 rfl rfl ?_ ?_<;>intro g1
   ·exact Ak [2] O (Ai (i:=0) Jr O O (CB _)) (CD [0] O O (Av _) (Bu [3] O (hr:=⟨_,O⟩)))
   exact Bu [7] O (hr:=⟨_,O⟩)
  exact Bu [13] O (hr:=⟨_,O⟩)
 rintro _ ⟨q,rfl⟩;refine CS [0] 2 [1] 4 C5 O O ?_ ?_
 ·refine Ak [1] O (Ai (i:=0) FV O O (Dm _)) ?_;refine A9 [2] 25 rfl rfl ?_ ?_<;>intro g
  ·refine Ak [1] O (Ai (i:=0) HN O O (Bw _)) (CD [0] O O (List.length_map _) ?_);refine A9 [3] 31 rfl rfl ?_ ?_<;>intro g1
   ·exact Bu [3] O (hr:=⟨_,O⟩)
   exact Bu [3] O (hr:=⟨_,O⟩)
  exact Bu [9] O (hr:=⟨_,O⟩)
 rintro _ ⟨q1,rfl⟩;refine Ak [1] O (Ai (i:=0) FV O O (Ch _)) ?_;refine BH [2] rfl ?_ ?_<;>intro c
 ·refine CS [0] 5 [] 2 C5 O O ?_ ?_
  ·refine Ak [1] O (BY (i:=0) Bh O O (Dp _) (An _)) (Cc [0] O (ID d.value (by first | exact h1.rt.nd | exact h1.vl.nd | exact h1.ty.nd)) ?_);refine A9 [1] 41 rfl rfl ?_ ?_<;>intro g
   ·refine A9 [3] 44 rfl rfl ?_ ?_<;>intro g1
    ·exact Ak [1] O (Ai (i:=0) FP O O (Bb _)) (CD [0] O O (List.length_map _) (Bu [3] O (hr:=⟨_,O⟩)))
    exact Bu [6] O (hr:=⟨_,O⟩)
   exact Bu [9] O (hr:=⟨_,O⟩)
  rintro _ ⟨q2,rfl⟩;refine BF [0] O (B7 [] [] O O ⟨⟨_,O⟩,O⟩)
 refine CS [2] 999999 [1,4,35] 50 C5 O O ?_ ?_
 ·refine BH [0] rfl ?_ ?_<;>intro c1
  ·exact Bu [0] O (hr:=⟨_,O⟩)
  exact Bu [2] O (hr:=⟨_,O⟩)
 rintro _ ⟨q2,rfl⟩;refine BH [0] rfl ?_ ?_<;>intro c1
 ·refine CS [0] 8 [] 2 C5 O O ?_ ?_
  ·refine A9 [2] 54 rfl rfl ?_ ?_<;>intro g
   ·exact Ak [1] O (Ai (i:=0) FP O O (Bb _)) (CD [0] O O (List.length_map _) (Bu [3] O (hr:=⟨_,O⟩)))
   exact Bu [6] O (hr:=⟨_,O⟩)
  rintro _ ⟨q3,rfl⟩;refine BF [0] O (B7 [] [] O O ⟨⟨_,O⟩,O⟩)
 refine BH [2] rfl ?_ ?_<;>intro c2
 ·refine CS [0] 10 [] 2 C5 O O ?_ ?_
  ·refine Ak [1] O (BY (i:=0) Bh O O (Dp _) (An _)) (Cc [0] O (ID d.value (by first | exact h1.rt.nd | exact h1.vl.nd | exact h1.ty.nd)) ?_);refine A9 [1] 65 rfl rfl ?_ ?_<;>intro g
   ·exact Ak [1] O (Ai (i:=0) FP O O (Bb _)) (CD [0] O O (List.length_map _) (Bu [3] O (hr:=⟨_,O⟩)))
   exact Bu [6] O (hr:=⟨_,O⟩)
  rintro _ ⟨q3,rfl⟩;refine BF [0] O (B7 [] [] O O ⟨⟨_,O⟩,O⟩)
 refine CS [0] 11 [] 2 C5 O O ?_ ?_
 ·refine Ak [1] O (Ai (i:=0) Xm O O (Ec _)) (Ak [0] O (Jj O O) ?_);refine A9 [1] 74 rfl rfl ?_ ?_<;>intro g
  ·refine Ak [1] O (BY (i:=0) Bh O O (D8 _) (An _)) (Cc [0] O (ID d.type (by first | exact h1.rt.nd | exact h1.vl.nd | exact h1.ty.nd)) ?_);refine A9 [2] 79 rfl rfl ?_ ?_<;>intro g1
   ·refine Ak [1] O (BY (i:=0) Bh O O (Dp _) (An _)) (Cc [0] O (ID d.value (by first | exact h1.rt.nd | exact h1.vl.nd | exact h1.ty.nd)) ?_);refine A9 [2] 84 rfl rfl ?_ ?_<;>intro g2
    ·exact Bu [3] O (hr:=⟨_,O⟩)
    exact Bu [3] O (hr:=⟨_,O⟩)
   exact Bu [8] O (hr:=⟨_,O⟩)
  exact Bu [13] O (hr:=⟨_,O⟩)
 rintro _ ⟨q3,rfl⟩;refine BF [0] O (B7 [] [] O O ⟨⟨_,O⟩,O⟩)
theorem Mc:∀(t:Tm),(Nd t)→EM Tryz.prog 203 [.agg ((BB t).map .p)] (J0):=by
 intro t h1;refine Db Tryz.func203 O (DT [0] O O fun b1=>F3 (α:=Tm×Int) [2] [1] [0] (fun(y,m)=>[(3,.p (I m))]) (fun(y,m)=>[(0,.box b1 ((BB y).map .p))]) (fun(y,m)=>size y) (fun(y,m)=>Nd y) ⟨t,0⟩ O O O (h1) ?_);rintro⟨y,m⟩ hC
 try simp only at hC
 obtain⟨yk,yi,yn,yl,ys⟩:=y;refine DM [0] 2 [1,3] 12 (((yk:Int)==(6:Int))&&(((ys.length:Nat):Int)==(2:Int))) O O ?_ ?_
 ·refine A9 [4,0] 7 rfl rfl ?_ ?_<;>intro g
  ·exact CD [2,0] O O (Av _) (Bu [2] O)
  exact Bu [5] O
 refine BH [0] rfl ?_ ?_<;>intro c
 ·refine Ak [1] O (EO O O) ?_;refine Em [3,0] ys 1 O O O (Jt _) (fun x hx=>?_) (hj:=⟨Af,by first | rfl | omega,(by first | omega | (simp at c;omega))⟩);exact Fa [2,0,1] 0 ⟨x,wr ((m:Int)+(1:Int))⟩ O ((CE hC.2.2.2.2.1 hx)) (hμ:=(by have:=BW hx;simp only[size];omega))
 refine C6 [0] O (BF [2] O (B7 [] [] O O ⟨⟨_,O⟩,O⟩))
theorem QT:∀(d:B4),(TR d)→EM Tryz.prog 167 [.agg ((Bn d).map .p)] (C5):=by
 intro d h1;have hcl:=h1.cl;refine Db Tryz.func167 O (DT [0] O O fun b1=>Jf [1] [2] O (Aw O (fun _=>BL Og O O) Ah (Cf (j:=0) O O O (fun H i hi=>BY (i:=i) Bh O hi (D8 _) (An _)) AB Ah (G8 [(3,.free (.ptr b1 13)),(4,.read [.box b1 ((Bn d).map .p)] (.p (I d.fixed)))] O O (BC O O (Mc d.type h1.ty.nd) (.inl O)) Ab (⟨_,0,O⟩) AB ?_))));rintro _ ⟨e,rfl⟩;refine⟨Ah,?_⟩;refine DB [1] O (Cf (j:=0) O O O (fun H i hi=>Ai (i:=i) FV O hi (Dm _)) AB AN (GU [2] O (F3 (α:=Nat×Bool) [1] [1] [0] (fun(i,b)=>[(3,.p (.bool b)),(4,.p (I (i:Int)))]) (fun _=>[]) (fun(i,b)=>d.ctors.length - i) (fun(i,b)=>i≤d.ctors.length) ⟨0,(decide ((e:Int)≥(d.fixed:Int)))⟩ O O O AO ?_)));rintro⟨i,b⟩ hC
 try simp only at hC
 have hi:=hC;refine Ak [2] O (Ai (i:=0) HN O O (Bw _)) (CD [0] O O (List.length_map _) ?_);refine BH [1] rfl ?_ ?_<;>intro c
 ·refine CS [0] 5 [1,4] 3 C5 O O ?_ ?_
  ·refine Jf [0] [8] O (DB [2] O (HV 19 O (fun g=>?_) (fun g=>?_)))
   ·(try simp only[sd,se] at g);refine BZ O (fun _=>BL Og O O) Ah (Fz (i:=0) O O O O O (fun H i hi=>Ai (i:=i) HN O hi (Bw _)) AB Ah (BZ O (fun _=>Be O) Ah ?_));have ⟨x,hx⟩:=Ap (l:=d.ctors) (i:=i) Af;refine BZ O (fun _=>Ao VG O O Af (JZ hx) (FD _)) Ah (BZ O (fun _=>CV Y8 O O) Ah (BZ O (fun _=>Cn Bh O (Ef _) (An _)) Ah (U2 [(9,.free (.ptr b1 13)),(10,.read [.box b1 ((Bn d).map .p)] (.p (I d.fixed)))] O O O O (BC O O (Mc x.type (h1.cs _ (List.mem_of_getElem? hx)).ty.nd) (.inl O)) Ab (⟨_,0,O⟩) AB ?_)));rintro _ ⟨e1,rfl⟩;refine⟨Ah,?_⟩;exact DB [1] O (Fz (i:=0) O O O O O (fun H i hi=>Ai (i:=i) FV O hi (Dm _)) AB AN (GH tab 3 [] O (I8 (Bu [0] O (hr:=⟨_,O⟩)))))
   (try simp only[sd,se] at g);exact DB [6] O (PA O O O O AN (GH tab 5 [] O (I8 (Bu [0] O (hr:=⟨_,O⟩)))))
  rintro _ ⟨q,rfl⟩;exact Fa [3] 0 ⟨i+1,q⟩ O Af
 refine C6 [0] O (BF [2] O (B7 [] [] O O ⟨⟨_,O⟩,O⟩))
theorem Tt:∀(d:B4),(TR d)→EM Tryz.prog 125 [.agg ((Bn d).map .p)] (J0):=by
 intro d h1;have hfl:=h1.fl;refine Db Tryz.func125 O (DT [0] O O fun b1=>CS [1] 1 [1] 16 C5 O O ?_ ?_)
 ·refine Ak [1] O (Ai (i:=0) FV O O (B3 _)) ?_;refine A9 [2] 7 rfl rfl ?_ ?_<;>intro g
  ·exact Bu [9] O (hr:=⟨_,O⟩)
  refine Ak [1] O (Ai (i:=0) FV O O (B3 _)) ?_;refine A9 [3] 12 rfl rfl ?_ ?_<;>intro g1
  ·exact Bu [4] O (hr:=⟨_,O⟩)
  exact Ak [1] O (Ai (i:=0) FV O O (Dm _)) (Bu [2] O (hr:=⟨_,O⟩))
 rintro _ ⟨q,rfl⟩;refine BH [0] rfl ?_ ?_<;>intro c
 ·refine BF [1] O (B7 [] [] O O ⟨⟨_,O⟩,O⟩)
 refine CS [0] 3 [1] 37 C5 O O ?_ ?_
 ·refine Ak [1] O (Ai (i:=0) HN O O (Bw _)) (CD [0] O O (List.length_map _) ?_);refine A9 [2] 21 rfl rfl ?_ ?_<;>intro g
  ·exact Bu [16] O (hr:=⟨_,O⟩)
  refine Ak [1] O (Ai (i:=0) FV O O (Ch _)) ?_;refine A9 [2] 25 rfl rfl ?_ ?_<;>intro g1
  ·refine Ak [1] O (Ai (i:=0) FP O O (Bb _)) (CD [0] O O (List.length_map _) ?_);refine A9 [2] 30 rfl rfl ?_ ?_<;>intro g2
   ·exact Bu [7] O (hr:=⟨_,O⟩)
   exact Ak [1] O (Ai (i:=0) FP O O (Bb _)) (CD [0] O O (List.length_map _) (Bu [4] O (hr:=⟨_,O⟩)))
  exact Bu [12] O (hr:=⟨_,O⟩)
 rintro _ ⟨q1,rfl⟩;refine BH [0] rfl ?_ ?_<;>intro c1
 ·refine BF [1] O (B7 [] [] O O ⟨⟨_,O⟩,O⟩)
 refine F3 (α:=Nat) [1] [1] [0] (fun i=>[(3,.p (I (i:Int)))]) (fun _=>[]) (fun i=>d.funs.length - i) (fun i=>i≤d.funs.length) 0 O O O AO ?_;rintro i hC
 try simp only at hC
 have hi:=hC;refine Ak [2] O (Ai (i:=0) FP O O (Bb _)) (CD [0] O O (List.length_map _) ?_);refine BH [1] rfl ?_ ?_<;>intro c2
 ·refine CS [0] 8 [1,3] 60 C5 O O ?_ ?_
  ·refine Ak [1] O (Ai (i:=0) FP O O (Bb _)) (Em [1] d.funs i O O O (IK EW) (fun x hx=>?_));refine Ak [1] O (EP FV O (Ft _)) ?_;refine A9 [2] 52 rfl rfl ?_ ?_<;>intro g
   ·exact Bu [8] O (hr:=⟨_,O⟩)
   exact Ak [1] O (Ai (i:=0) FP O O (Bb _)) (Ak [1] O (Ao OU O O Af (G5 hx) (EW _)) (Ak [1] O (EP FV O (Ft _)) (Bu [2] O (hr:=⟨_,O⟩))))
  rintro _ ⟨q2,rfl⟩;refine BH [0] rfl ?_ ?_<;>intro c3
  ·refine BF [1] O (B7 [] [] O O ⟨⟨_,O⟩,O⟩)
  exact Fa [3] 0 (i+1) O Af
 refine C6 [0] O (CS [0] 10 [] 95 C5 O O ?_ ?_)
 ·refine Ak [1] O (Ai (i:=0) FV O O (Ch _)) ?_;refine A9 [2] 64 rfl rfl ?_ ?_<;>intro g
  ·refine Ak [2] O (Ai (i:=0) FV O O (CO _)) (Ak [1] O (Ai (i:=0) FV O O (B3 _)) ?_);refine A9 [2] 71 rfl rfl ?_ ?_<;>intro g1
   ·refine Ak [2] O (Ai (i:=0) FV O O (CO _)) (Ak [1] O (Ai (i:=0) FV O O (B3 _)) (Ak [0] O (EO O O) ?_));refine A9 [3] 80 rfl rfl ?_ ?_<;>intro g2
    ·exact Bu [15] O (hr:=⟨_,O⟩)
    refine Ak [2] O (Ai (i:=0) Jr O O (CB _)) (CD [0] O O (Av _) (Ak [1] O (Ai (i:=0) HN O O (Bw _)) (CD [0] O O (List.length_map _) ?_)));refine A9 [3] 90 rfl rfl ?_ ?_<;>intro g3
    ·exact Bu [5] O (hr:=⟨_,O⟩)
    refine De [1,0] O (EJ O O O O (BC O O (QT d h1) (.inl O)) ?_);rintro _ ⟨q2,rfl⟩;refine BT (L0 [3] O ?_);exact⟨O,O,AK,⟨_,O⟩,Ah⟩
   refine Ak [11] O (Ai (i:=0) Jr O O (CB _)) (CD [0] O O (Av _) (Ak [1] O (Ai (i:=0) HN O O (Bw _)) (CD [0] O O (List.length_map _) ?_)));refine A9 [3] 90 rfl rfl ?_ ?_<;>intro g2
   ·exact Bu [5] O (hr:=⟨_,O⟩)
   refine De [1,0] O (EJ O O O O (BC O O (QT d h1) (.inl O)) ?_);rintro _ ⟨q2,rfl⟩;refine BT (L0 [3] O ?_);exact⟨O,O,AK,⟨_,O⟩,Ah⟩
  exact Bu [31] O (hr:=⟨_,O⟩)
 rintro _ ⟨q2,rfl⟩;refine BH [0] rfl ?_ ?_<;>intro c3
 ·refine BF [1] O (B7 [] [] O O ⟨⟨_,O⟩,O⟩)
 refine BF [1] O (B7 [] [] O O ⟨⟨_,O⟩,O⟩)
theorem Pe:∀(ds:List B4) (d:B4),(HA ds)→(TR d)→EM Tryz.prog 126 [.p (.lst (List.map Bn ds)),.agg ((Bn d).map .p)] (J0):=by
 intro ds d h1 h2;have hn:=KE d;have hcl:=h2.cl;have hfl:=h2.fl;refine Db Tryz.func126 O (DT [0] O O fun b3=>Cc [2,0] O (Ja d h2.cl h2.fl h2.nm) (F3 (α:=Nat) [2] [0,5] [] (fun i=>[(6,.p (I (i:Int)))]) (fun _=>[]) (fun i=>(CA d).length - i) (fun i=>i≤(CA d).length) 0 O O O AO ?_));rintro i hC
 try simp only at hC
 have hi:=hC;refine CD [2] O O (List.length_map _) ?_;refine BH [1] rfl ?_ ?_<;>intro c
 ·refine Em [2] (CA d) i O O O (IK (f:=FX) fun _=>O) (fun x hx=>?_);refine De [1] O (Ci O O (BC O O (XD x (WE h2 hx)) (.inl O)) ?_);rintro _ ⟨q,rfl⟩;refine BT (BH [1] rfl ?_ ?_)<;>intro c1
  ·refine BF [1] O (B7 [] [] O O ⟨⟨_,O⟩,O⟩)
  refine Ak [3] O (Ao GW O O Af (R6 hx) (O)) (Cc [1] O (OO ds x h1) (DR [3] O (Am LA O) fun b7=>CS [2,0,1] 8 [0,5,6] 43 C5 O O ?_ ?_))
  ·refine Jf [0] [] O (DB [3] O (HV 34 O (fun g=>?_) (fun g=>?_)))
   ·(try simp only[sd,se] at g);exact GH tab 9 [] O (I8 (Bu [0] O (hr:=⟨_,O⟩)))
   (try simp only[sd,se] at g);exact DB [2] O (BZ O (fun _=>E5 (lo:=0) (hi:=i) GW O (HQ (H4 _)) O ⟨_,O⟩ (Nat.zero_le _) AP (RW (f:=FX) (CA d) i)) Ah (DB [2] O (BZ O (fun _=>Ao GW O O Af (R6 hx) (O)) Ah (BZ O (fun _=>Fs Xm O) Ah (BZ O (fun _=>BM O O (RT ((CA d).take i) x Aa) O) Ah (GH tab 1 [] O (I8 (Bu [0] O (hr:=⟨_,O⟩)))))))))
  rintro _ ⟨q1,rfl⟩;refine BH [0] rfl ?_ ?_<;>intro c2
  ·refine BF [1] O (B7 [] [] O O ⟨⟨_,O⟩,O⟩)
  exact Fa [3] 1 (i+1) O Af
 refine C6 [0] O (BF [1] O (B7 [] [] O O ⟨⟨_,O⟩,O⟩))
end Go.Proofs.YtajnpndfkbnkoaaGreat
namespace Go.Eu
open Go.Abs
section
variable {l:List CN}{i j:Nat}{x u:CN}
end
theorem Vh (M:List (Int×Int)):(TG M).length=M.length:=by simp[TG,WB]
theorem Sz.len {m:List (Int×Int)}(h:Sz m) (hr:∀k∈m.map Prod.fst,-65536≤k∧k<8):m.length≤65544:=by
 have ha:=WA h;have:=Rb (lo:= -65536) ha (fun v hv=>by
  simp only[TG,List.mem_map] at hv;obtain⟨k,hk,rfl⟩:=hv;exact hr k ((NT _).mem_iff.1 hk)) Af
 rw[Vh] at this;omega
structure eF (S:List (Int×Int)×Int):Prop where
 m:Sz S.1
 r:∀k∈S.1.map Prod.fst,-65536≤k∧k<8
theorem eF.len {S:List (Int×Int)×Int}(h:eF S):S.1.length≤65544:=h.m.len h.r
theorem Ol {m:List (Int×Int)}{i p:Int}{Q:Int→Prop}(h:∀k∈m.map Prod.fst,Q k) (hi:Q i):∀k∈(JM m i p).map Prod.fst,Q k:=by
 have hs:∀k∈(ms i p m).map Prod.fst,Q k:=by
  rw[Q4]
  grind
 grind [JM]
theorem Pj {n:Int}{Q:Int→Prop}:∀(vs:List CN) (m:List (Int×Int)),(∀k∈m.map Prod.fst,Q k)→(∀v∈vs,Q v.index)→∀k∈(vs.foldl (I6 n) m).map Prod.fst,Q k
 | [],m,h,_=>h
 | v::vs,m,h,hv=>Pj vs (I6 n m v) (Ol h (hv v Ag)) fun w hw=>hv w (by simp[hw])
theorem eF.step {ps:List DK}{S:List (Int×Int)×Int}{x:CN}(hps:∀l∈ps,Dk l=true) (h:eF S) (hx:(0≤x.plus∧x.plus≤100)∧ -65536≤x.index∧x.index<8) (hi:x.index<ps.length):eF (SE ps S x):=by
 refine⟨(W0 hps h.m hx.1.1 hi).1,?_⟩;unfold SE;split
 ·exact Ol h.r hx.2
 rename_i q;refine Pj _ _ h.r fun v hv=>?_;have hlt:x.index.toNat<ps.length:=by omega
 rw[List.getD_eq_getElem?_getD,List.getElem?_eq_getElem hlt] at hv;exact((Sy.of (hps _ (List.getElem_mem hlt))).rg v hv).2
theorem eF.zero (c:Int):eF ([],c):=⟨Sz.nil,by simp⟩
section
variable {ps:List DK}
end
def NI {α:Type}(a b:Out α):Prop:=a= .stuck∨a=b
section
variable {α β:Type}
theorem NI.refl (a:Out α):NI a a:= .inr rfl
theorem NI.bind {a b:Out α}{k k':α→Out β}(h:NI a b) (hk:∀x,NI (k x) (k' x)):NI (a.bind k) (b.bind k'):=by
 rcases h with rfl | rfl
 ·exact .inl O
 cases a with
 | stuck=>exact .inl rfl
 | fail=>exact .inr rfl
 | ok x=>exact hk x
theorem NI.ite {c:Prop} [Decidable c] {a a' b b':Out α}(h1:NI a a') (h2:NI b b'):NI (if c then a else b) (if c then a' else b'):=by grind
theorem NI.chk {σ:Type}{a b:Out (Tm×σ)}{k k':Tm×σ→Out β}(h:NI a b) (hk:∀x,NI (k x) (k' x)):NI (a.chk k) (b.chk k'):=NI.bind h fun x=>NI.ite (hk x) (NI.refl _)
variable {σ:Type}{E:List B4}{S:Sys σ}
theorem NI.put {s:σ}{x:Tm×Int}{k k':Tm→σ→Out β}(hk:∀t s',NI (k t s') (k' t s')):NI (S.put s x k) (S.put s x k'):=by
 unfold Sys.put;refine NI.ite ?_ (NI.refl _)
 grind [NI.refl]
variable {W W':σ→Tm→Out (Tm×σ)}(hW:∀s t,NI (W s t) (W' s t))
include hW
end
section
variable {σ:Type}{E:List B4}{S:Sys σ}
end
theorem S9:∀(t:Tm),(Ru t).1.length<size t
 | .mk k i n l [a,b]=>by
  unfold Ru;split
  ·have:=S9 b;have:=size_pos a;simp only[List.length_cons,size,Aq];omega
  ·simp[size,Aq];omega
 | .mk k i n l []=>by simp[Ru,size,Aq]
 | .mk k i n l [_]=>by simp[Ru,size,Aq];omega
 | .mk k i n l (_::_::_::_)=>by simp[Ru,size,Aq];omega
mutual
def MU:Fv→Prop
 | .mk k b v l=>okB b=true∧RD l
def cA:HC→Prop
 | .mk c a t=>MU t
def RD:List HC→Prop
 | []=>True
 | b::l=>cA b∧RD l
end
structure DG (d:B4):Prop where
 din:TR d
 fx:0≤d.fixed∧d.fixed≤1000000
 vl:okB d.value=true
 ru:∀t∈d.recs.rules,okB t=true
 fu:∀f∈d.funs,1≤f.arity∧f.arity≤16∧MU f.tree
structure Z5 (E:List B4):Prop where
 env:HA E
 all:∀d∈E,DG d
theorem Ng {nm:ByteArray}:∀{l:List (ByteArray×GZ)}{e:GZ},CU nm l=some e→∃s,(s,e)∈l
 | (s,x)::l,e,h=>by
  simp only[CU] at h;split at h
  ·cases h;exact⟨s,by simp⟩
  have ⟨s',h'⟩:=Ng h;exact⟨s',List.mem_cons_of_mem _ h'⟩
theorem SL {i p:Int}{s:ByteArray}{e:GZ}:∀{cs:List I1}{k:Int},(s,e)∈HG i p cs k→∃(j:Nat) (c:I1),cs[j]?=some c∧e=⟨4,i,k+j,p,c.type⟩
 | c::cs,k,h=>by
  simp only[HG,List.mem_cons] at h;rcases h with h | h
  ·cases h;exact⟨0,c,rfl,by simp⟩
  have ⟨j,c',h1,h2⟩:=SL h;exact⟨j+1,c',by simpa using h1,by rw[h2];congr 1;omega⟩
theorem Uw {i p:Int}{s:ByteArray}{e:GZ}:∀{cs:List Ie}{k:Int},(s,e)∈LP i p cs k→∃(j:Nat) (c:Ie),cs[j]?=some c∧e=⟨6,i,k+j,p,c.type⟩
 | c::cs,k,h=>by
  simp only[LP,List.mem_cons] at h;rcases h with h | h
  ·cases h;exact⟨0,c,rfl,by simp⟩
  have ⟨j,c',h1,h2⟩:=Uw h;exact⟨j+1,c',by simpa using h1,by rw[h2];congr 1;omega⟩
structure Yo (d:B4) (i:Int) (e:GZ):Prop where
 decl:e.decl=i
 kind:0≤e.kind∧e.kind≤6
 ctor:e.kind=4→∃(j:Nat) (c:I1),d.ctors[j]?=some c∧e.item=j
 func:e.kind=6→∃(j:Nat) (c:Ie),d.funs[j]?=some c∧e.item=j
theorem dP {d:B4}{i:Int}{s:ByteArray}{e:GZ}(h:(s,e)∈XX d i):Yo d i e:=by
 unfold XX at h;split at h
 ·rename_i hk;simp only[List.mem_singleton,Prod.mk.injEq] at h;obtain⟨_,rfl⟩:=h;exact⟨O,by simp only;omega,fun q=>by simp only at q;omega,fun q=>by simp only at q;omega⟩
 split at h
 ·simp only[List.mem_cons,List.mem_append,List.mem_singleton,Prod.mk.injEq,List.not_mem_nil,or_false] at h;rcases h with ⟨_,rfl⟩ | h | ⟨_,rfl⟩
  ·exact⟨O,by simp,fun q=>by simp at q,fun q=>by simp at q⟩
  ·obtain⟨j,c,h1,rfl⟩:=SL h;exact⟨O,by simp,fun _=>⟨j,c,h1,by simp⟩,fun q=>by simp at q⟩
  exact⟨O,by simp,fun q=>by simp at q,fun q=>by simp at q⟩
 split at h
 ·obtain⟨j,c,h1,rfl⟩:=Uw h;exact⟨O,by simp,fun q=>by simp at q,fun _=>⟨j,c,h1,by simp⟩⟩
 cases h
theorem S4 {nm:ByteArray}:∀{ds:List B4}{k:Int}{e:GZ},findF nm ds k=some e→∃(i:Nat) (d:B4),ds[i]?=some d∧Yo d (k+i) e
 | d::ds,k,e,h=>by
  simp only[findF] at h;split at h
  ·rename_i x hx;cases h;have ⟨s,hs⟩:=Ng hx;exact⟨0,d,O,by simpa using dP hs⟩
  have ⟨i,d',h1,h2⟩:=S4 h;refine⟨i+1,d',by simpa using h1,?_⟩;rw[show k+((i+1:Nat):Int)=k+1+i by omega];exact h2
theorem Wv {ds:List B4}{nm:ByteArray}(h:(Cu ds nm).2=0):∃(i:Nat) (d:B4),ds[i]?=some d∧Yo d i (Cu ds nm).1:=by grind [Cu,findF,S4]
section
variable {E:List B4}{nm:ByteArray}{x:B4}
end
def iE (E:List B4) (h:Tm):Bool:=decide ((Cu E h.name).2=0)&&decide ((h.levels.length:Int)=(Cu E h.name).1.params)
section
variable {α β σ:Type}
end
section
variable {E:List B4}{σ:Type}{S:Sys σ}{W:σ→Tm→Out (Tm×σ)}{n:Nat}{t:Fv}{v:List Tm}{l:Tm}{s:σ}{x:Tm}
end
section
variable {E:List B4}{σ:Type}{S:Sys σ}{W:σ→Tm→Out (Tm×σ)}{n:Nat}{h m:Tm}{a:List Tm}{s:σ}{d:B4}{x:GZ}
section
variable (hu:iE E h=true) (hd:E[(Cu E h.name).1.decl.toNat]?=some d)
include hu hd
omit hd
end
end
section
variable {E:List B4}{σ:Type}{S:Sys σ}{n:Nat}{t:Tm}{s:σ}{X:Out (Tm×σ)}
section
variable (ho:okB t=true) (h:S.over s=false) (hm:S.many (Al t).2.length=false)
include ho h hm
end
end
theorem Sy.zero:Sy J6:=Sy.num (n:=0) Af
theorem Ms (l:List Tm) (k:Nat):Aq (l.take k)+Aq (l.drop k)=Aq l:=by rw[←LN,List.take_append_drop]
theorem O8:∀(t:Tm),size (Al t).1+Aq (Al t).2+(Al t).2.length=size t
 | .mk k i n l [f,a]=>by
  unfold Al;split
  ·have:=O8 f;simp only[LN,Aq,size,List.length_append,List.length_cons,List.length_nil];omega
  ·simp[Aq]
 | .mk k i n l []=>by simp[Al,Aq]
 | .mk k i n l [_]=>by simp[Al,Aq]
 | .mk k i n l (_::_::_::_)=>by simp[Al,Aq]
mutual
def JW:Fv→Nat
 | .mk _ _ _ l=>1+M6 l
def Xq:HC→Nat
 | .mk _ _ t=>JW t
def M6:List HC→Nat
 | []=>0
 | b::l=>max (Xq b) (M6 l)
end
structure Xn (E:List B4):Prop where
 g:Z5 E
 vl:∀d∈E,size d.value≤400
 ru:∀d∈E,∀t∈d.recs.rules,size t≤400
 fu:∀d∈E,∀f∈d.funs,JW f.tree≤50
theorem SS {nm:ByteArray}:∀{l:List HC}{t:Fv},Fp nm l=some t→RD l→MU t∧JW t≤M6 l
 | .mk c a q::l,t,h,ho=>by
  simp only[RD,cA] at ho;rw[Fp] at h;simp only[M6,Xq];split at h
  ·split at h
   ·cases h
   cases h;exact⟨ho.1,by simp only[HC.tree];omega⟩
  have ⟨h1,h2⟩:=SS h ho.2;exact⟨h1,by omega⟩
theorem XL {nm:ByteArray}{t t':Fv}(h:Fp nm t.branches=some t') (ho:MU t):MU t'∧JW t' < JW t:=by
 obtain⟨k,b,v,l⟩:=t
 grind [MU,SS,JW,Fv.branches]
theorem V7 {E:List B4}{nm:ByteArray}{d:B4}{j:Int}(h:Rf E nm=some (d,j)):d∈E∧(0≤j→j<d.ctors.length):=by
 unfold Rf at h;split at h
 ·cases h
 rename_i h0;have ⟨i,d',h1,h2⟩:=Wv (Decidable.not_not.1 h0);have hd:KU E (Cu E nm).1.decl=d':=U6 (by rw[h2.decl];simpa using h1);have hm:=List.mem_of_getElem? h1;rw[hd] at h;split at h
 ·grind
 split at h
 ·rename_i h4;have ⟨k,c,h5,h6⟩:=h2.ctor h4
  grind
 grind
structure ct (E:List B4) (t:Tm) (d:B4) (j:Int) (f:List Tm):Prop where
 mem:d∈E
 lo:0≤j
 hi:j<d.ctors.length
 fs:f=(Al t).2.drop d.fixed.toNat
 len:((Al t).2.length:Int)=d.fixed+Q5 d j
 kind:(Al t).1.kind=3
theorem J7 {E:List B4}{t:Tm}{d:B4}{j:Int}{f:List Tm}(h:Mb E t=some (d,j,f)):ct E t d j f:=by
 unfold Mb at h;split at h
 ·cases h
 rename_i hk;split at h
 ·cases h
 rename_i d' j' hf;have ⟨h1,h2⟩:=V7 hf;split at h
 ·cases h
 split at h
 ·cases h
 rename_i h3 h4;cases h;exact⟨h1,by omega,h2 Af,rfl,Decidable.not_not.1 h4,Decidable.not_not.1 hk⟩
theorem TI {E:List B4}{t:Tm}{d:B4}{j:Int}{f:List Tm}(h:Mb E t=some (d,j,f)) (ho:okB t=true):(∀x∈f,okB x=true∧size x<size t)∧Aq f+f.length<size t:=by
 have c:=J7 h;have hs:=O8 t;have hp:=size_pos (Al t).1;have hd:=Ms (Al t).2 d.fixed.toNat;rw[c.fs];refine⟨fun x hx=>⟨(Vz ho).2 x (List.mem_of_mem_drop hx),?_⟩,by rw[List.length_drop];omega⟩;have:=VU (List.mem_of_mem_drop hx);omega
theorem Yf {E:List B4}{t:Tm}{d:B4}{j:Int}{f:List Tm}(hE:Z5 E) (h:Mb E t=some (d,j,f)):f.length≤1000000:=by
 have c:=J7 h;have hd:=hE.all d c.mem;have hlo:=c.lo;have hhi:=c.hi;have hlt:j.toNat<d.ctors.length:=by omega
 have hx:=List.getElem?_eq_getElem hlt;have hs:=(hd.din.cs _ (List.getElem_mem hlt)).ty.sz;have hl:=S9 d.ctors[j.toNat].type;have hfx:=hd.fx;have hlen:=c.len;rw[c.fs,List.length_drop]
 grind [Q5,du,UZ,U6]
def HD {α:Type}(o:Out α) (p:α→Prop):Prop:=match o with
 | .stuck=>False
 | .fail=>True
 | .ok a=>p a
section
variable {α β σ:Type}
theorem HD.ok {a:α}{p:α→Prop}(h:p a):HD (.ok a) p:=h
theorem HD.ns {o:Out α}{p:α→Prop}(h:HD o p):o≠ .stuck:=fun e=>by rw[e] at h;exact h
theorem HD.get {o:Out α}{p:α→Prop}{a:α}(h:HD o p) (e:o= .ok a):p a:=by rw[e] at h;exact h
theorem HD.mono {o:Out α}{p q:α→Prop}(h:HD o p) (hpq:∀a,p a→q a):HD o q:=by
 cases o with
 | stuck=>exact h
 | fail=>trivial
 | ok a=>exact hpq a h
theorem HD.bind {o:Out α}{k:α→Out β}{p:α→Prop}{q:β→Prop}(h:HD o p) (hk:∀a,p a→HD (k a) q):HD (o.bind k) q:=by
 cases o with
 | stuck=>exact h
 | fail=>trivial
 | ok a=>exact hk a h
theorem HD.chk {o:Out (Tm×σ)}{k:Tm×σ→Out β}{p:Tm×σ→Prop}{q:β→Prop}(h:HD o p) (hk:∀a,p a→okB a.1=true∧HD (k a) q):HD (o.chk k) q :=
 HD.bind h fun a ha=>by rw[if_pos (hk a ha).1];exact(hk a ha).2
theorem HD.put {S:Sys σ}{s:σ}{x:Tm×Int}{k:Tm→σ→Out β}{q:β→Prop}(ho:okB x.1=true) (hk:∀s',S.res s x.1 x.2=some s'→HD (k x.1 s') q):HD (S.put s x k) q:=by
 unfold Sys.put;rw[if_pos ho];cases h:S.res s x.1 x.2 with
 | none=>trivial
 | some s'=>exact hk s' h
end
structure YA {σ:Type} (S:Sys σ) (J:σ→Prop) (cnt:σ→Nat) (C:Nat):Prop where
 nov:∀s,J s→S.over s=false→cnt s≤C
 res:∀s t e s',J s→cnt s<1152921504606846976→okB t=true→S.res s t e=some s'→J s'∧cnt s'=cnt s+1
 hC:C≤20000
section
variable {σ:Type}(S:Sys σ) (J:σ→Prop) (cnt:σ→Nat) (C:Nat)
structure eh (s:σ) (t:Tm) (r:Tm×σ):Prop where
 j:J r.2
 ok:okB r.1=true
 le:cnt s≤cnt r.2
 sz:size r.1≤size t+(cnt r.2 - cnt s)*4500
 ub:S.over s=false→cnt r.2≤C+1+size t+(C - cnt s)*4500
 st:S.over s=true→r.2=s
structure iR (n:Nat) (s:σ) (t:Tm):Prop where
 j:J s
 ok:okB t=true
 pm:S.over s=false→size t+(C - cnt s)*4500≤90100000
 fu:S.over s=false→size t+(C - cnt s)*4501+100≤n
 n1:1≤n
def et (n:Nat) (W:σ→Tm→Out (Tm×σ)):Prop:=∀s t,iR S J cnt C n s t→HD (W s t) (eh S J cnt C s t)
end
section
variable {σ:Type}{S:Sys σ}{J:σ→Prop}{cnt:σ→Nat}{C:Nat}{E:List B4}{n:Nat}{W:σ→Tm→Out (Tm×σ)}
variable (hS:YA S J cnt C) (hE:Xn E) (hW:et S J cnt C n W)
include hS hE hW
end
section
variable {σ:Type}{S:Sys σ}{J:σ→Prop}{cnt:σ→Nat}{C:Nat}{E:List B4}{n:Nat}{W:σ→Tm→Out (Tm×σ)}
variable (hS:YA S J cnt C)
include hS
variable (hE:Xn E)
include hE
variable (hW:et S J cnt C n W)
include hW
end
section
variable {σ:Type}{S:Sys σ}{J:σ→Prop}{cnt:σ→Nat}{C:Nat}{E:List B4}
variable (hS:YA S J cnt C) (hE:Xn E)
include hS
include hE
end
def RY:Tm→List Int→Tm→Prop
 | t,[],v=>t=v
 | t,p::ps,v=>∃y,(Al t).2[p.toNat]?=some y∧RY y ps v
theorem Qm {k:Int}{w:Tm}:∀{ps:List Int}{t v:Tm},RY t ps v→(Al v).2[k.toNat]?=some w→RY t (ps++[k]) w
 | [],t,v,h,hw=>by cases h;exact⟨w,hw,rfl⟩
 | p::ps,t,v,⟨y,h1,h2⟩,hw=>⟨y,h1,Qm h2 hw⟩
structure ZP (a vars:List Tm) (pl:List (Int×List Int)):Prop where
 len:pl.length=vars.length
 at_:∀(i:Nat) v,vars[i]?=some v→∃j path y,pl[i]?=some (j,path)∧a[j.toNat]?=some y∧RY y path v
theorem UG (p:Int×List Int) (fx:Int) (n:Nat):(Kh p fx n).length=n:=by simp[Kh]
theorem ZP.more {a vars:List Tm}{pl:List (Int×List Int)}(h:ZP a vars pl) {i:Nat}{v:Tm}{p:Int×List Int}(hv:vars[i]?=some v) (hp:pl[i]?=some p) {fx:Int}(hfx:0≤fx):ZP a (vars++(Al v).2.drop fx.toNat) (pl++Kh p fx ((Al v).2.drop fx.toNat).length):=by
 refine⟨by rw[List.length_append,List.length_append,h.len,UG],fun q w hw=>?_⟩;by_cases hq:q<vars.length
 ·rw[List.getElem?_append_left hq] at hw;rw[List.getElem?_append_left (by rw[h.len];exact hq)];exact h.at_ q w hw
 rw[List.getElem?_append_right Af] at hw;rw[List.getElem?_append_right (by rw[h.len];omega),h.len];have ⟨j,path,y,h1,h2,h3⟩:=h.at_ i v hv;rw[hp] at h1;cases h1;have hlt:=(List.getElem?_eq_some_iff.1 hw).1;rw[List.getElem?_drop] at hw;refine⟨j,path++[fx+((q - vars.length:Nat):Int)],y,?_,h2,Qm h3 (by rw[show (fx+((q - vars.length:Nat):Int)).toNat=fx.toNat+(q - vars.length) by omega];exact hw)⟩;rw[Kh,List.getElem?_map,List.getElem?_range hlt];rfl
section
variable {σ:Type}{S:Sys σ}{J:σ→Prop}{cnt:σ→Nat}{C:Nat}{E:List B4}
variable (hS:YA S J cnt C) (hE:Xn E)
omit hS hE in
include hS
include hE
end
section
variable {σ:Type}{S:Sys σ}{J:σ→Prop}{cnt:σ→Nat}{C:Nat}{E:List B4}
variable (hS:YA S J cnt C) (hE:Xn E)
include hS hE
end
section
variable {E:List B4}{t:Tm}{k i:Int}{n:ByteArray}{ls:List DK}{ks:List Tm}
end
section
variable {E:List B4}{t:Tm}{k i:Int}{n:ByteArray}{ls:List DK}{ks:List Tm}
end
end Go.Eu
namespace Go.Eu
end Go.Eu
namespace Go.Eu
open Go.Abs
theorem Xi {nm:ByteArray}:∀{l:List HC}{t:Fv},Fp nm l=some t→KD l→F7 t
 | .mk c a q::l,t,h,ho=>by
  simp only[KD,Oq] at ho;rw[Fp] at h;split at h
  ·split at h
   ·cases h
   cases h;exact ho.1.2
  exact Xi h ho.2
theorem fS {nm:ByteArray}{t t':Fv}(h:Fp nm t.branches=some t') (ho:F7 t):F7 t':=Xi h ho.bs
structure dx (y:Fv) (us:List Tm):Prop where
 tin:F7 y
 tok:MU y
 len:us.length+JW y*1000000≤100000000
 ok:∀v∈us,okB v=true
theorem dx.next {E:List B4}{y q:Fv}{us f:List Tm}{x:Tm}{nm:ByteArray}{d:B4}{j:Int}(h:dx y us) (hE:Z5 E) (hx:okB x=true) (hc:Mb E x=some (d,j,f)) (hb:Fp nm y.branches=some q):dx q (us++f):=by
 have ⟨h1,h2⟩:=XL hb h.tok;have h3:=Yf hE hc;have h4:=h.len;refine⟨fS hb h.tin,h1,by rw[List.length_append];omega,fun v hv=>?_⟩;rcases List.mem_append.1 hv with hv | hv
 ·exact h.ok v hv
 exact((TI hc hx).1 v hv).1
section
variable {E:List B4}{σ:Type}{S:Sys σ}{W:σ→Tm→Out (Tm×σ)}{n:Nat}{h m:Tm}{a:List Tm}{s:σ}{d:B4}{x:GZ}
end
section
variable {E:List B4}{σ:Type}{S:Sys σ}{W:σ→Tm→Out (Tm×σ)}{n:Nat}{h m:Tm}{a:List Tm}{s:σ}{d:B4}{x:GZ}
end
section
variable {E:List B4}{σ:Type}{S:Sys σ}{n:Nat}{t:Tm}{s:σ}
end
section
variable {E:List B4}{σ:Type}{S:Sys σ}{R:σ→σ→Prop}
structure fW (S:Sys σ) (R:σ→σ→Prop):Prop where
 rf:∀s,R s s
 tr:∀{a b c},R a b→R b c→R a c
 rs:∀{s t e s'},S.res s t e=some s'→R s s'
variable (h:fW S R)
include h
end
end Go.Eu
namespace Go.Eu
end Go.Eu
namespace Go.Eu
open Go.Abs
section
variable {α:Type}{n n2 e:Int}{x:Tm×Int}{z t:Tm}{k:Tm→Int→Out α}{u:Unit}
end
section
variable {E:List B4}{g m:Tm}{a:List Tm}{s e:Int}{d:B4}{u:Unit}
end
end Go.Eu
namespace Go.Eu
end Go.Eu
namespace Go.Eu
open Go.Abs
section
variable {E:List B4}
variable {n:Nat}{W:PI→Tm→Out (Tm×PI)}{V:Int→Tm→Out (Tm×Int)}
end
section
variable {E:List B4}{n:Nat}
end
section
variable {E:List B4}
end
section
variable {E:List B4}
end
section
variable {E:List B4}
structure Exit (E:List B4) (n:Nat) (l:Int) (a:Tm) (l':Int):Prop where
 many:ah.many (Al a).2.length=false
 lam:(Al a).1.kind=5→(Al a).2.length=0
 lt:(Al a).1.kind≠11
 proj:(Al a).1.kind=9∨(Al a).1.kind=10→∃p,(Al a).1=bu (Al a).1.kind p∧okB p=true∧p.kind≠8∧bh E ah n l p= .ok (p,l')∧a=apply (Al a).1 (Al a).2
 con:(Al a).1.kind=3→XA E ah (bh E ah n) n (Al a).1 (Al a).2 l= .ok (none,l')
 oth:(Al a).1.kind≠9→(Al a).1.kind≠10→(Al a).1.kind≠3→l'=l
end
section
variable {α:Type}{o:Out (α×Int)}{a:α×Int}{z:α}{e:Int}
end
structure eC (a us:List Tm) (pl:List (Int×List Int)) (w:Fv):Prop where
 ok:ZP a us pl
 nn:∀p∈pl,0≤p.1∧(∀q∈p.2,0≤q)∧p.2.length+JW w≤1000
theorem eC.len {a us:List Tm}{pl:List (Int×List Int)}{w:Fv}(h:eC a us pl w):pl.length=us.length:=h.ok.len
theorem eC.next {E:List B4}{a us f:List Tm}{pl:List (Int×List Int)}{w q:Fv}(h:eC a us pl w) (hE:Z5 E) {i:Nat}{v:Tm}{p:Int×List Int}{d:B4}{j:Int}{nm:ByteArray}(hv:us[i]?=some v) (hp:pl[i]?=some p) (hc:Mb E v=some (d,j,f)) (hb:Fp nm w.branches=some q) (ho:MU w):eC a (us++f) (pl++Kh p d.fixed f.length) q:=by
 have hcf:=J7 hc;have ⟨b1,b2⟩:=XL hb ho;have hfx:=(hE.all d hcf.mem).fx.1;have hmore:=h.ok.more hv hp hfx;rw[←hcf.fs] at hmore;have ⟨n1,n2,n3⟩:=h.nn p (List.mem_of_getElem? hp);refine⟨hmore,fun r hr=>?_⟩;rcases List.mem_append.1 hr with hr | hr
 ·have ⟨m1,m2,m3⟩:=h.nn r hr
  grind
 obtain⟨k,_,rfl⟩:=List.mem_map.1 hr
 grind
theorem eC.at_ {a us:List Tm}{pl:List (Int×List Int)}{w:Fv}(h:eC a us pl w) {i:Nat}{v:Tm}{p:Int×List Int}(hv:us[i]?=some v) (hp:pl[i]?=some p):0≤p.1∧(∀q∈p.2,0≤q)∧p.2.length≤1000∧p.1.toNat<a.length:=by
 have ⟨n1,n2,n3⟩:=h.nn p (List.mem_of_getElem? hp);have ⟨j,path,y,h1,h2,h3⟩:=h.ok.at_ i v hv
 grind
section
variable {E:List B4}{σ:Type}{S:Sys σ}{T:σ→Tm→Out (Option Tm×σ)}{h:Tm}{ar:Int}{a us:List Tm}{n:Nat}{t:Fv}{pl:List (Int×List Int)}{s:σ}{x:Tm}{p:Int×List Int}
end
section
variable {E:List B4}{σ:Type}{S:Sys σ}{n:Nat}{h:Tm}{a:List Tm}{s:σ}{d:B4}{x:Tm}
section
variable (hu:iE E h=true) (hd:E[(Cu E h.name).1.decl.toNat]?=some d)
include hu hd
omit hd
end
end
section
variable {E:List B4}{σ:Type}{S:Sys σ}{n:Nat}{t:Tm}{s:σ}{X:Out (Option Tm×σ)}
section
variable (ho:okB t=true)
include ho
end
end
section
variable {E:List B4}{σ:Type}{S:Sys σ}{n:Nat}{t:Tm}{s:σ}{r:Tm×σ}{d:B4}{X:Out (Option Int×σ)}
section
variable (hk:(Al r.1).1.kind=3) (hu:iE E (Al r.1).1=true) (ho:S.over r.2=false) (hd:E[(Cu E (Al r.1).1.name).1.decl.toNat]?=some d)
include hk hu ho
include hd
end
end
section
variable {E:List B4}{σ:Type}{S:Sys σ}{n:Nat}{t:Fv}{a:List Tm}{s:σ}
end
section
variable {o:Out (Option Tm×Int)}{q:Option Tm}{c e:Int}
end
section
variable {o:Out (Option Int×Int)}{q:Option Int}{c e:Int}
end
section
variable {E:List B4}{σ:Type}{S:Sys σ}{W:σ→Tm→Out (Tm×σ)}
end
end Go.Eu
namespace Go.Proofs.YtajnpndfkbnkoaaGreat
open Go.Abs Go.Eu
theorem Kc:∀(n:Nat) (l:List Tm) (most:Int),Aq l≤n→XJ l→l.length<wide→EE Tryz.prog 43 [.p (I most),ZX l] (.p (I (Ck l most 0))):=by
 intro n
 induction n using Nat.strongRecOn with
 | ind n ih =>
  intro l most hs hnd hlen;simp only[wide] at hlen;refine Bv Tryz.func43 O ga (n:=29) O O (BD tab 1 [] O (BD tab 1 [] O (Ax (A4 (B6 O (Au O (CQ Bc O) (Ar tab 1 [] O (BG (C4 (α:=Nat×Int) (fun s=>⟨29,mk [(0,.p (I most)),(5,.p (I s.2)),(8,ZX l),(9,.p (I (A0 l).length)),(10,.p (I s.1))],[],[]⟩) (fun s=>l.length - s.1) (fun s=>s.1≤l.length∧Ck (l.drop s.1) most s.2=Ck l most 0) ((0,0)) Ag ?_ ?_)))))))))
  ·exact Ds ⟨O,O,O,O,O,Ah⟩ AA
  rintro⟨i,m⟩ ⟨hi,hC⟩;simp only at hi hC;refine BD tab 1 [] O (Ax (A5 O (fun c1=>?_) (fun c1=>?_)))
  ·(try simp only[sd] at c1);have hi2:i<l.length:=by rw[Av] at c1;omega
   have ⟨t,hk⟩:=Ap hi2;have hks:=BW hk;obtain⟨kd,ix,nm,ls,ks⟩:=t;have hnt:=NK hnd hk;simp only[Wd] at hnt;simp only[size] at hks;refine BJ (Ax (BG (A4 (Au O (Ao Bc O O Af (B9 hk) (An _)) (Au O (Bl Bh O (An _)) (Bz O (Am Bx O) fun b7=>Ar tab 1 [0,0] O (Ax (BD tab 3 [] O (A5 O (fun c2=>?_) (fun c2=>?_))))))))))
   ·(try simp only[sd] at c2);refine BD tab 2 [] O (Bk ⟨O,_,[],Bq O,List.nil_sublist _,?_⟩);exact⟨pI (by rw[←hC,Pk hk,if_pos Af]),O⟩
   (try simp only[sd] at c2);refine BJ (A1 (Az tab 3 [] O (Au O (Gw O O) (Az tab 2 [0] O (Au O (BM O O (ih (Aq ks) Af ks _ (Nat.le_refl _) hnt.2.2.2.2.1 hnt.2.2.2.1) O) (Au O (EO O O) (Au O (EO O O) (Ar tab 1 [] O (A1 (Ar tab 2 [] O ?_))))))))));exact⟨(i+1,wr (m+wr (1+Ck ks (wr (most - m)) 0))),Aa,⟨by omega,by rw[←hC,Pk hk,if_neg Af,DP]⟩,Ds ⟨rfl,rfl,rfl,rfl,rfl,trivial⟩ AA⟩
  (try simp only[sd] at c1);have hi2:i=l.length:=by rw[Av] at c1;omega
  refine Cq (BD tab 2 [] O (Bk ⟨O,_,[],Bq O,List.nil_sublist _,?_⟩));exact⟨pI (by rw[←hC,hi2,List.drop_length];rfl),O⟩
theorem dm:∀(x:DK),(eI x)→EE Tryz.prog 80 [.agg ((Dd x).map .p)] (.p (.bool (decide ((x.vars.length:Int) > 20)))):=by
 intro x h1;refine Db Tryz.func80 O (DT [0] O O fun b1=>CD [3,0] O O (List.length_map _) (BF [2] O (B7 [] [] O O ⟨O,O⟩)))
theorem dR:∀(l:List DK),(l.length<wide)→(∀x∈l,eI x)→EM Tryz.prog 117 [.p (.lst (List.map Dd l)),.p (.fn 80)] (fun v=>∃r:Int,v= .p (I r)∧(r<0→∀x∈l,x.vars.length≤20)):=by
 intro l h1 h2;simp only[wide] at h1;refine Db Tryz.func117 O (CD [2] O O (List.length_map _) ?_);refine F3 (α:=Nat) [1] [0,1,7] [] (fun i=>[(8,.p (I (i:Int)))]) (fun _=>[]) (fun i=>l.length - i) (fun i=>i≤l.length∧(∀j,j<i→∀x,l[j]?=some x→x.vars.length≤20)) 0 O O O (⟨by omega,fun j h=>by omega⟩) ?_;rintro i hC
 try simp only at hC
 have ⟨hi,hC⟩:=hC;refine BH [1] rfl ?_ ?_<;>intro c
 ·refine Em [5] l i O O O (IK JP) (fun x hx=>?_);refine Cc [1] O (dm x (h2 x (List.mem_of_getElem? hx))) ?_;refine BH [0] rfl ?_ ?_<;>intro c1
  ·refine BF [2] O (⟨O,_,[],Bq O,List.nil_sublist _,⟨⟨_,O,?_⟩,O⟩⟩);exact fun h=>by omega
  exact Fa [2] 0 (i+1) O (⟨by omega,Dg hC hx Af⟩)
 refine C6 [0] O (BF [1] O (⟨O,_,[],Bq O,List.nil_sublist _,⟨⟨_,O,?_⟩,O⟩⟩));exact fun _ x hx=>by obtain⟨j,hj⟩:=Dl hx;exact hC j (by have:=(List.getElem?_eq_some_iff.1 hj).1;omega) x hj
theorem aN:∀(l:List DK),(l.length<wide)→(∀x∈l,eI x)→EM Tryz.prog 79 [.p (.lst (List.map Dd l)),.p (.fn 80)] (fun v=>∃b:Bool,v= .p (.bool b)∧(b=false→∀x∈l,x.vars.length≤20)):=by
 intro l h1 h2;refine Db Tryz.func79 O (De [3] O (Ci O O (BC O O (dR l h1 h2) (.inl O)) ?_));rintro _ ⟨r,rfl,hr⟩;refine BT (BF [2] O ?_);refine⟨O,_,[],Bq O,List.nil_sublist _,⟨⟨_,O,?_⟩,O⟩⟩;exact fun h=>hr (by simp at h;omega)
theorem W3:∀(n:Nat) (l:List Tm),(Aq l≤n)→(XJ l)→(l.length<wide)→EM Tryz.prog 44 [.p (.lst (A0 l))] (fun v=>∃b:Bool,v= .p (.bool b)∧(b=true→Q8 l)):=by
 intro n
 induction n using Nat.strongRecOn with
 | ind n ih =>
  intro l h1 h2 h3;have h3b:=h3;simp only[wide] at h3b;refine Db Tryz.func44 O (Cc [2] O (Kc _ l 200 (Nat.le_refl _) h2 h3) (Cr [1] O O (fun c=>?_) (fun c=>?_)))
  ·have cR:=c;(try simp only[sd,se] at c);refine BF [1] O (⟨O,_,[],Bq O,List.nil_sublist _,⟨⟨_,O,?_⟩,O⟩⟩);exact fun h=>absurd h Ae
  have cR:=c;(try simp only[sd,se] at c);refine CD [1] O O (Av _) ?_;refine F3 (α:=Nat) [1] [8,9] [] (fun i=>[(10,.p (I (i:Int)))]) (fun _=>[]) (fun i=>l.length - i) (fun i=>i≤l.length∧(∀j,j<i→∀x,l[j]?=some x→WG x)) 0 O O O (⟨by omega,fun j h=>by omega⟩) ?_;rintro i hC
  try simp only at hC
  have ⟨hi,hC⟩:=hC;refine Cr [1] O O (fun c1=>?_) (fun c1=>?_)
  ·have c1R:=c1;(try simp only[sd,se] at c1);refine Em [0] l i O O O (Jt _) (fun t ht=>?_);refine DR [1] O (Am Bx O) fun b4=>?_;obtain⟨tk,ti,tn,tl,ts⟩:=t;have hnt:=NK h2 ht;simp only[Wd] at hnt;have hks:=BW ht;simp only[size] at hks;refine CS [1,0,1] 6 [8,9,10] 34 (fun y=>∃b:Bool,y= .p (.bool b)∧(b=false→WG (.mk tk ti tn tl ts))) O O ?_ ?_
   ·refine Ak [2,0] O (ER bQ O) ?_;refine A9 [2] 18 rfl rfl ?_ ?_<;>intro g
    ·exact Bu [16] O (hr:=(by first | exact⟨_,rfl,fun h=>absurd h Ae⟩ | exact⟨_,rfl,fun h=>by simp only[Bool.not_eq_false'] at h;exact⟨by omega,by omega,hb Ac,(hb1 h).sz,(hb1 h).nd,(hb1 h).fw⟩⟩))
    refine CD [2,0] O O (List.length_map _) ?_;refine A9 [3] 24 rfl rfl ?_ ?_<;>intro g1
    ·exact Bu [10] O (hr:=(by first | exact⟨_,rfl,fun h=>absurd h Ae⟩ | exact⟨_,rfl,fun h=>by simp only[Bool.not_eq_false'] at h;exact⟨by omega,by omega,hb Ac,(hb1 h).sz,(hb1 h).nd,(hb1 h).fw⟩⟩))
    refine De [2,0] O (EJ O O O O (BC O O (aN tl hnt.2.1 hnt.2.2.1) (.inl O)) ?_);rintro _ ⟨b,rfl,hb⟩;refine BT (A9 [2] 29 rfl rfl ?_ ?_)<;>intro g2
    ·exact Bu [5] O (hr:=(by first | exact⟨_,rfl,fun h=>absurd h Ae⟩ | exact⟨_,rfl,fun h=>by simp only[Bool.not_eq_false'] at h;exact⟨by omega,by omega,hb Ac,(hb1 h).sz,(hb1 h).nd,(hb1 h).fw⟩⟩))
    refine De [2,0] O (EJ O O O O (BC O O (ih (Aq ts) Af ts (Nat.le_refl _) hnt.2.2.2.2.1 hnt.2.2.2.1) (.inl O)) ?_);rintro _ ⟨b1,rfl,hb1⟩;refine BT (L0 [2] O ?_);exact⟨O,O,AK,(by first | exact⟨_,rfl,fun h=>absurd h Ae⟩ | exact⟨_,rfl,fun h=>by simp only[Bool.not_eq_false'] at h;exact⟨by omega,by omega,hb Ac,(hb1 h).sz,(hb1 h).nd,(hb1 h).fw⟩⟩),⟨O,O,O,Ah⟩⟩
   rintro _ ⟨q,rfl,hq⟩;refine Cr [0] O O (fun c2=>?_) (fun c2=>?_)
   ·have c2R:=c2;(try simp only[sd,se] at c2);refine BF [1] O (⟨O,_,[],Bq O,List.nil_sublist _,⟨⟨_,O,?_⟩,O⟩⟩);exact fun h=>absurd h Ae
   have c2R:=c2;(try simp only[sd,se] at c2);exact Fa [2] 1 (i+1) O (⟨by omega,Dg hC ht (hq (by simpa using c2))⟩)
  have c1R:=c1;(try simp only[sd,se] at c1);refine C6 [0] O (BF [1] O (⟨O,_,[],Bq O,List.nil_sublist _,⟨⟨_,O,?_⟩,O⟩⟩));exact fun _=>Zb (m:=i) Af h2 h3 Af hC
theorem H6:∀(t:Tm) (vars params metas levels:Int),(Nd t)→(size t<1000000)→EM Tryz.prog 45 [.agg ((BB t).map .p),.p (I vars),.p (I params),.p (I metas),.p (I levels)] (fun v=>∃e:Int,v= .p (I e)∧(e=0→wf (max vars 0) metas 0 t∧Cw t)):=by
 intro t vars params metas levels h1 h2;refine Db Tryz.func45 O (DT [0] O O fun b5=>Ak [3,0] O (Ky O O) (De [3] O (Ci O O (BC O O (aq _ t 0 (max (vars:Int) (0:Int)) params metas levels (Nat.le_refl _) h1 Af AU) (.inl O)) ?_)));rintro _ ⟨e,rfl,he⟩;refine BT (BH [3] rfl ?_ ?_)<;>intro c
 ·refine BF [2] O (⟨O,_,[],Bq O,List.nil_sublist _,⟨⟨_,O,?_⟩,O⟩⟩);exact fun h=>absurd h Ac
 refine Cc [1,0] O (cU _ t (Nat.le_refl _) Af) ?_;refine BH [1] rfl ?_ ?_<;>intro c1
 ·refine BF [1] O (⟨O,_,[],Bq O,List.nil_sublist _,⟨⟨_,O,?_⟩,O⟩⟩);exact fun h=>absurd h Ae
 refine Cc [1,0] O (a7 _ t (Nat.le_refl _) Af) ?_;refine BH [1] rfl ?_ ?_<;>intro c2
 ·refine BF [1] O (⟨O,_,[],Bq O,List.nil_sublist _,⟨⟨_,O,?_⟩,O⟩⟩);exact fun h=>absurd h Ae
 refine BF [1] O (⟨O,_,[],Bq O,List.nil_sublist _,⟨⟨_,O,?_⟩,O⟩⟩);exact fun _=>he Af
theorem aY:∀(t:Tm),(TQ t)→EM Tryz.prog 224 [.agg ((BB t).map .p)] (fun v=>∃(l:List Tm) (q:Tm),v= .tup [.p (.lst (A0 l)),TV q]∧l.length<1000000):=by
 intro t h1;have hsz:=h1.sz;refine Db Tryz.func224 O (DT [0] O O fun b1=>DR [1] O (Am Bx O) fun b3=>D5 [1] O (BA (IC (t:=4) (sz:=5) O) ?_));refine CF (F3 (α:=Tm×List Tm×Option Nat×Nat) [0] [1,3] [0,1,2] (fun(y,l,o,cp)=>[(4,.vs o (A0 l).length cp)]) (fun(y,l,o,cp)=>[(0,.vec o 5 (A0 l) cp),(2,.box b1 ((BB y).map .p))]) (fun(y,l,o,cp)=>size y) (fun(y,l,o,cp)=>Nd y∧l.length+size y≤size t) ⟨t,[],none,0⟩ O O O (⟨h1.nd,by simp⟩) ?_);rintro⟨y,l,o,cp⟩ hC
 try simp only at hC
 have hl0:l.length<1000000:=by have:=hC.2;omega
 obtain⟨yk,yi,yn,yl,ys⟩:=y;refine DM [0] 2 [1,3,4] 13 (((yk:Int)==(6:Int))&&(((ys.length:Nat):Int)==(2:Int))) O O ?_ ?_
 ·refine A9 [4,2] 8 rfl rfl ?_ ?_<;>intro g
  ·exact CD [2,2] O O (Av _) (Bu [2] O)
  exact Bu [5] O
 refine BH [0] rfl ?_ ?_<;>intro c
 ·refine Em [3,2] ys 0 O O O (Jt _) (fun x hx=>?_) (hj:=⟨Af,by first | rfl | omega,(by first | omega | (simp at c;omega))⟩);obtain⟨xk,xi,xn,xl,xs⟩:=x;refine Ak [1] O (Ay Bc Bx O O O O O) (De [0] O (IQ O O (C9 (i:=0) (rows':=A0 [(.mk xk xi xn xl xs:Tm)]) Bc Bc Bx O O O O O O (G1 _) AD (XT l [(.mk xk xi xn xl xs:Tm)])) fun o1 cp1=>?_));refine BT (Em [3,2] ys 1 O O O (Jt _) (fun x1 hx1=>?_) (hj:=⟨Af,by first | rfl | omega,(by first | omega | (simp at c;omega))⟩));exact Fa [2,2,1] 0 ⟨x1,l++[(.mk xk xi xn xl xs:Tm)],o1,cp1⟩ O (⟨CE hC.1.2.2.2.2.1 hx1,by have:=BW hx1;have:=hC.2;simp only[size] at *;simp only[List.length_append,List.length_cons,List.length_nil];omega⟩) (hμ:=(by have:=BW hx1;simp only[size];omega))
 refine C6 [0] O (Jf [0] [] O (GU [4,2,1,0] O (D5 [0] O ?_)));refine BA (CH (i:=0) [4,25,2] O (ES ⟨O,O,O,Ah⟩)) ?_;refine CF (BF [0] O (B7 [0] [] O O ⟨⟨l,(.mk yk yi yn yl ys:Tm),O,by have:=hC.2;omega⟩,rfl⟩))
theorem Ub:∀(d:B4) (k:Int),(TR d)→(0≤k)→(k<d.ctors.length)→EM Tryz.prog 206 [.agg ((Bn d).map .p),.p (I k)] (J0):=by
 intro d k h1 h2 h3;have hcl:=h1.cl;refine Db Tryz.func206 O (DT [0] O O fun b2=>Ak [2] O (Ai (i:=0) HN O O (Bw _)) (Em [1] d.ctors ((k:Int).toNat) O O O (IK FD) (fun x hx=>?_)));refine Ak [1] O (Cn Bh O (Ef _) (An _)) (De [0] O (Ci O O (BC O O (aY x.type (h1.cs _ (List.mem_of_getElem? hx)).ty) (.inl O)) ?_));rintro _ ⟨l,q,rfl,hl⟩;refine BT (DR [3] O (Am Bx O) fun b6=>?_);refine CD [3,0,1] O O (Av _) (Ak [1] O (Ai (i:=1) FV O O (Dm _)) (Ak [0] O (Gw O O) (Ak [0] O (Ky O O) (BF [1] O (B7 [] [] O O ⟨⟨_,O⟩,O⟩)))))
theorem PS:∀(n:Nat) (s:Hq) (t:Tm),(size t≤n)→(Nd t)→(HA s.env)→(s.own.length<9000000)→(TR s.d)→EM Tryz.prog 204 [.agg ((Cs s).map .p),.agg ((BB t).map .p)] (J0):=by
 intro n
 induction n with
 | zero=>intro s t h;cases t;simp[size] at h
 | succ n ih =>
  intro s t h1 h2 h3 h4 h5;have h3l:=h3.len;obtain⟨tk,ti,tn,tl,ts⟩:=t;have hk:=h2.2.2.2.2.1;have hkl:=h2.2.2.2.1;simp only[C7] at hkl;simp only[size] at h1;refine Db Tryz.func204 O (DT [0] O O fun b2=>DT [0] O O fun b3=>CS [4,0] 999999 [2,3] 12 (fun _=>True) O O ?_ ?_)
  ·refine BH [0] rfl ?_ ?_<;>intro c
   ·refine Ak [1] O (Ai (i:=1) Wp O O (F5 _)) (Cc [2,0] O (OO s.env tn h3) (DR [3] O (Am LA O) fun b5=>?_));refine BH [4,0,1] rfl ?_ ?_<;>intro c1
    ·refine Ak [1] O (Ai (i:=2) SX O O (MP _)) (Cc [2,1] O (RT s.own tn h4) ?_);refine BH [1] rfl ?_ ?_<;>intro c2
     ·refine BF [1] O (B7 [] [] O O ⟨⟨_,O⟩,O⟩)
     refine Ak [1] O (BY (i:=2) cG O O (Dv _) (ET _)) (Ak [1] O (Ai (i:=2) Wp O O (F5 _)) (CD [0] O O (List.length_map _) (Cc [2,1] O (QL s.d (s.env.length:Nat) tn h5.cl h5.fl) (CD [3,0,1,1] O O (List.length_map _) (Ak [1] O (Ai (i:=0) FV O O (Gr _)) ?_)))));refine BH [1] rfl ?_ ?_<;>intro c3
     ·refine BF [1] O (B7 [] [] O O ⟨⟨_,O⟩,O⟩)
     exact Bu [0] O (hr:=Ah) (hs:=(Fe (is:=[1,2]) O))
    refine CD [2,1] O O (List.length_map _) (Ak [1] O (Ai (i:=0) FV O O (Gr _)) ?_);refine BH [1] rfl ?_ ?_<;>intro c2
    ·refine BF [1] O (B7 [] [] O O ⟨⟨_,O⟩,O⟩)
    exact Bu [0] O (hr:=Ah) (hs:=(Fe (is:=[1,2]) O))
   exact Bu [0] O (hr:=Ah)
  intro _ _;refine F3 (α:=Nat) [1] [2,3] [0,1] (fun i=>[(7,.p (I (i:Int)))]) (fun _=>[]) (fun i=>ts.length - i) (fun i=>i≤ts.length) 0 O O O AO ?_;rintro i hC
  try simp only at hC
  have hi:=hC;refine CD [3,0] O O (Av _) ?_;refine BH [1] rfl ?_ ?_<;>intro c
  ·refine Jf [0] [6] O (DB [4,1,0] O ?_);have ⟨x,hx⟩:=Ap (l:=ts) (i:=i) Af;refine Aw O (fun _=>Ao Bc O O Af (B9 hx) (An _)) Ah (Aw O (fun _=>Bl Bh O (An _)) Ah (G8 [] O O (BC O O (ih s x (by have:=BW hx;omega) (CE hk hx) h3 h4 h5) (.inl O)) Ab (⟨_,0,O⟩) AB ?_));rintro _ ⟨e,rfl⟩;refine⟨Ah,?_⟩;refine GU [1] rfl (BH [2] rfl ?_ ?_)<;>intro c1
   ·refine BF [2] O (B7 [] [] O O ⟨⟨_,O⟩,O⟩)
   exact Fa [3] 0 (i+1) O Af
  refine C6 [0] O (BF [1] O (B7 [] [] O O ⟨⟨_,O⟩,O⟩))
theorem E6:∀(s:Hq) (t:Tm) (vs ps:Int),(TQ t)→(HA s.env)→(s.own.length<9000000)→(TR s.d)→EM Tryz.prog 168 [.agg ((Cs s).map .p),.agg ((BB t).map .p),.p (I vs),.p (I ps)] (J0):=by
 intro s t vs ps h1 h2 h3 h4;refine Db Tryz.func168 O (DT [0] O O fun b4=>DT [0] O O fun b5=>De [4,0] O (Ci O O (BC O O (H6 t vs ps 0 0 h1.nd h1.sz) (.inl O)) ?_));rintro _ ⟨e,rfl,he⟩;refine BT (BH [3] rfl ?_ ?_)<;>intro c
 ·refine BF [2] O (B7 [] [] O O ⟨⟨_,O⟩,O⟩)
 refine De [2,1,0] O (Ci O O (BC O O (PS (size t) s t (Nat.le_refl _) h1.nd h2 h3 h4) (.inl O)) ?_);rintro _ ⟨e1,rfl⟩;refine BT (BF [1] O (B7 [] [] O O ⟨⟨_,O⟩,O⟩))
theorem RR:∀(n:Nat) (a b:Fv),(Ir a≤n)→(F7 a)→EM Tryz.prog 205 [.agg ((DF a).map .p),.agg ((DF b).map .p)] (C5):=by
 intro n
 induction n with
 | zero=>intro a b h;have:=Lf a;omega
 | succ n ih =>
  intro a b h1 h2;have hal:=h2.bl;refine Db Tryz.func205 O (DT [0] O O fun b2=>DT [0] O O fun b3=>CS [1] 1 [2,3] 36 (fun y=>∃q:Bool,y= .p (.bool q)∧(q=false→a.branches.length=b.branches.length)) O O ?_ ?_)
  ·refine Ak [1] O (Ai (i:=1) FV O O (Gh _)) (Ak [1] O (Ai (i:=0) FV O O (Gh _)) ?_);refine A9 [2] 13 rfl rfl ?_ ?_<;>intro g
   ·exact Bu [23] O (hr:=(by refine⟨_,rfl,fun h=>?_⟩;first | (exact absurd h Ae) | (simp_all;done) | (simp_all;omega)))
   refine Ak [1] O (Ai (i:=1) FV O O (FC _)) (Ak [1] O (Ai (i:=0) FV O O (FC _)) ?_);refine A9 [3] 20 rfl rfl ?_ ?_<;>intro g1
   ·exact Bu [16] O (hr:=(by refine⟨_,rfl,fun h=>?_⟩;first | (exact absurd h Ae) | (simp_all;done) | (simp_all;omega)))
   refine Ak [1] O (BY (i:=1) Bh O O (Eh _) (An _)) (Ak [1] O (BY (i:=0) Bh O O (Eh _) (An _)) (Cc [0] O (Hn _ a.body b.body (Nat.le_refl _) h2.body.nd) ?_));refine A9 [3] 28 rfl rfl ?_ ?_<;>intro g2
   ·exact Bu [8] O (hr:=(by refine⟨_,rfl,fun h=>?_⟩;first | (exact absurd h Ae) | (simp_all;done) | (simp_all;omega)))
   exact Ak [1] O (Ai (i:=1) IA O O (Bf _)) (CD [0] O O (Ed _) (Ak [1] O (Ai (i:=0) IA O O (Bf _)) (CD [0] O O (Ed _) (Bu [2] O (hr:=(by refine⟨_,rfl,fun h=>?_⟩;first | (exact absurd h Ae) | (simp_all;done) | (simp_all;omega)))))))
  rintro _ ⟨q,rfl,hq⟩;refine BH [0] rfl ?_ ?_<;>intro c
  ·refine BF [1] O (B7 [] [] O O ⟨⟨_,O⟩,O⟩)
  have hq1:=hq (by simpa using c);refine F3 (α:=Nat) [1] [2,3] [0,1] (fun i=>[(5,.p (I (i:Int)))]) (fun _=>[]) (fun i=>a.branches.length - i) (fun i=>i≤a.branches.length) 0 O O O AO ?_;rintro i hC
  try simp only at hC
  have hi:=hC;refine Ak [2] O (Ai (i:=1) IA O O (Bf _)) (CD [0] O O (Ed _) ?_);refine BH [1] rfl ?_ ?_<;>intro c1
  ·have ⟨x,hx⟩:=Ap (l:=a.branches) (i:=i) Af;have ⟨x1,hx1⟩:=Ap (l:=b.branches) (i:=i) Af;refine D5 [0] O (ZJ [.val (.ptr b2 (0+7)),.val (.p (.lst (Is a.branches))),.val (.p (I (i:Int))),.val (.ref (EL x)),.val (.agg ((EL x).map .p)),.val (.ptr b3 (0+7)),.val (.p (.lst (Is b.branches))),.val (.p (I (i:Int))),.val (.ref (EL x1)),.val (.agg ((EL x1).map .p)),.new [.p (.str ⟨#[]⟩),.p (.bool false),.p (I 0),.p (I 0),.p (I 0),.p (.str ⟨#[]⟩),.p (.nils),.p (.nils),.p (I 0),.p (.nils)],.new [.p (.str ⟨#[]⟩),.p (.bool false),.p (I 0),.p (I 0),.p (I 0),.p (.str ⟨#[]⟩),.p (.nils),.p (.nils),.p (I 0),.p (.nils)]] [.p .any,.p .any] [5,6,7,8,9] Y0 O Ab Ab Ab (Hh O (fun Bs=>BL bJ O O) (Hh O (fun Bs=>Ai (i:=Bs.length+1) IA O (Yh O) (Bf _)) (Hh O (fun Bs=>Be O) (Hh O (fun Bs=>Ao XP O O Af (MA hx) (Dy _)) ?_)))));refine Hh O (fun Bs=>Bl Ur O (Dy _)) (Hh O (fun Bs=>BL bJ O O) (Hh O (fun Bs=>Ai (i:=Bs.length+0) IA O (Yh O) (Bf _)) (Hh O (fun Bs=>Be O) (Hh O (fun Bs=>Ao XP O O Af (MA hx1) (Dy _)) (Hh O (fun Bs=>Bl Ur O (Dy _)) (Ys O (fun Bs=>Am Y3 O) fun b6=>Ys O (fun Bs=>Am Y3 O) fun b7=>dN (VB [.box b6 ((EL x).map .p),.box b7 [.p (.str ⟨#[]⟩),.p (.bool false),.p (I 0),.p (I 0),.p (I 0),.p (.str ⟨#[]⟩),.p (.nils),.p (.nils),.p (I 0),.p (.nils)]] O (Cm (i:=0) Ur O O O (by simp[Dy]) (by first | rfl | simp[Dy]) (RX _)) ?_)))))));refine VB [.box b6 ((EL x).map .p),.box b7 ((EL x1).map .p)] O (Cm (i:=1) Ur O O O (by simp[Dy]) (by first | rfl | simp[Dy]) (RX _)) (dT (I8 (CS [0] 7 [2,3,5] 73 C5 O O ?_ ?_)))
   ·refine Ak [1] O (Ai (i:=0) Xm O O (FO _)) (Ak [1] O (Ai (i:=1) Xm O O (FO _)) (Ak [0] O (Jk O O) ?_));refine A9 [1] 59 rfl rfl ?_ ?_<;>intro g
    ·exact Bu [14] O (hr:=⟨_,O⟩)
    refine Ak [1] O (Ai (i:=0) gf O O (FF _)) (Ak [1] O (Ai (i:=1) gf O O (FF _)) (Ak [0] O (Tn gz O O) ?_));refine A9 [2] 66 rfl rfl ?_ ?_<;>intro g1
    ·exact Bu [7] O (hr:=⟨_,O⟩)
    refine Ak [1] O (BY (i:=0) OI O O (Ee _) (DD _)) (Ak [1] O (BY (i:=1) OI O O (Ee _) (DD _)) (De [0] O (EJ O O O O (BC O O (ih x.tree x1.tree (by have:=Nq hx;omega) (Gu h2.bs hx).tr) (.inl O)) ?_)));rintro _ ⟨q1,rfl⟩;refine BT (L0 [2] O ?_);exact⟨O,O,AK,⟨_,O⟩,⟨O,O,O,Ah⟩⟩
   rintro _ ⟨q1,rfl⟩;refine BH [0] rfl ?_ ?_<;>intro c2
   ·refine BF [1] O (B7 [] [] O O ⟨⟨_,O⟩,O⟩)
   exact Fa [3] 2 (i+1) O Af
  refine C6 [0] O (BF [1] O (B7 [] [] O O ⟨⟨_,O⟩,O⟩))
end Go.Proofs.YtajnpndfkbnkoaaGreat
