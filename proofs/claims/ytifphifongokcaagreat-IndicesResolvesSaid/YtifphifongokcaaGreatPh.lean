/- Part of the proofs: an abstract program logic, plain models and contracts of functions. -/
import Derived.Test.YtifphifongokcaaGreatPg
import Derived.Test.YtifphifongokcaaGreatPd
import Derived.Test.YtifphifongokcaaGreatPf
import Derived.Test.YtifphifongokcaaGreatPb
set_option linter.unusedVariables false
set_option linter.unusedSimpArgs false
set_option maxRecDepth 100000
namespace Go.Proofs.YtifphifongokcaaGreat
open Go.Abs Go.Eu
theorem WT:∀(s:Nat) (x:Tm×Tm),Bb Tryz.prog 101 [.ptr s 0,.p (.lst (List.map Bg [x]))] [.box s [.p (.lstc [])]] (fun r H'=>∃o cp,r= .val (.tup [])∧H'=[.vec o 10 (List.map Bg [x]) cp,.box s [.vs o (List.map Bg [x]).length cp]]):=by
 intro s x;refine C9 Tryz.func101 O Yd (n:=18) O O (Ar (A5 O (BF O) fun b2=>BR O (Ar (Bu O ?_))));refine Hj [] O O O (.inl ⟨O,O,O⟩) (YH [x]) O Ai (aw (we O) HX) ?_ (fun _ _ ⟨_,h,_⟩=>by cases h);rintro _ _ ⟨bn,h,rfl⟩;cases h;refine BR O (A1 (Fu (.inr O) fun dd l L hL=>⟨_,_,CK (is:=[2,0,3,4]) Ag ⟨_,_,O,O,⟨_,_,O,O,⟨_,_,O,O,⟨_,_,O,O,O⟩⟩⟩⟩,?_⟩));have hyy:Em Tryz.prog l [.p (I 0),.agg ((Bg x).map .p)] [.loop l L,.box b2 [.ptr s 0],.box s [.p (.lstc [])]] (Jw (.p (.bool true)) (fun T:List Ax=>∃o cp,T=[.vec o 10 (List.map Bg [x]) cp,.loop l L,.box b2 [.ptr s 0],.box s [.vs o (List.map Bg [x]).length cp]])):=by
  obtain⟨LB,hLB⟩:∃x,x=Ax.loop l { L with state:= .busy }:=⟨_,rfl⟩;subst hL;refine Gp (i:=0) O O O O (Au (A5 O (Az GG O) fun b5=>Al O (Bo (i:=0) Is O O O AY AQ (PF _)) (BR O ⟨O,1,O,?_⟩)));rw[←hLB];refine A1 (By (fun k=>Nat.beq k 6) Eg (DC (j:=2) O O O (fun H i hi=>Bd (i:=i) Sf O hi O) AB Aj (DC (j:=2) O O O (fun H i hi=>Bd (i:=i) Sf O hi O) AB Aj (BG O (fun _=>Cs O) Aj (DC (j:=3) O O O (fun H i hi=>Bd (i:=i) Sx O hi O) AB Aj (DC (j:=0) O O O (fun H i hi=>Ba (i:=i) Is O hi AY) AB Aj (BG O (fun _=>Bi (rows:=List.map Bg [x]) HW GG O O O O (CP (FH _)) (R2 _)) Aj (Y0 [] O O (LF (rows:=[]) (rows':=List.map Bg [x]) HW HW GG O O O Ai O (FH _) (Nat.succ_pos 0) Ai) Ad fun b16 cp=>⟨AB,Aj,?_⟩))))))));refine BG O (fun _=>Cs O) Aj (Eo O O (EB (i:=4) Sx O O O O O O) AB Aj (El O Ad ?_));subst hLB;refine⟨2,_,O,CM (is:=[0,2,3,4]) O,?_⟩;exact⟨O,_,_,O⟩
 refine(U9 (fun T:List Ax=>∃o cp,T=[.vec o 10 (List.map Bg [x]) cp,.loop l L,.box b2 [.ptr s 0],.box s [.vs o (List.map Bg [x]).length cp]]) l bn x _ hyy).mono ?_;rintro(v | v) H' hR
 rotate_left
 ·exact hR.elim
 obtain⟨rfl,_,⟨o,cp,rfl⟩,rfl⟩:=hR;subst hL;refine⟨2,_,O,Ai,?_⟩;refine⟨4,O,_,_,O,(CM (is:=[1,3]) O),?_⟩;exact⟨_,_,O,O⟩
set_option maxHeartbeats 4000000 in
theorem Hz:∀(n:Nat) (ds:List Bx) (ts:List Tm) (a b:Tm) (e:Int) (kn3:List Bool) (vs3:List Tm),(ts.length≤1000)→(n≤1000)→(Ib ds n [(a,b)] (List.replicate ts.length false) (List.replicate ts.length BH) e kn3 vs3)→Df Tryz.prog 54 [.p (.lst (List.map Br ds)),.p (.lst (Ay ts)),.p (.lst (Ay [a])),.p (.lst (Ay [b]))] (.tup [.p (.lst (List.map Bp kn3)),.p (.lst (Ay vs3)),.p (I e)]):=by
 intro n ds ts a b e kn3 vs3 h1 h2 h3;have ha1:[a].length=1:=rfl;have hb1:[b].length=1:=rfl;refine Aw Tryz.func54 O fo (n:=86) O O (An As 3 [] O (Am (Ar (Bu O (Al O (BB BP O (A8 _)) (Bu O (Al O (BB BP O (A8 _)) (Ak As 1 [] O (Ao O (fun c=>?_) (fun c=>?_))))))))))
 ·(try simp only[sd,se] at c);exfalso;simp at c
 (try simp only[sd,se] at c);refine Aq (Am (Sl [.val (.p (.lstc [])),.new [.p (.lstc [])],.val (.p (.lst (List.map Br ds))),.val (.p (.lst (Ay ts))),.val (.p (I (ts.length:Nat))),.newv 1 (List.map Bp (List.replicate (((ts.length:Nat):Int).toNat) false)),.val (.p (.lst (Ay ts))),.val (.p (I (ts.length:Nat))),.newv 5 (Ay (List.replicate (((ts.length:Nat):Int).toNat) (.mk 0 0 ⟨#[]⟩ [] []:Tm)))] Eg Ad Ad Ad (D5 O (fun Bs=>KN HW) fun _=>aL O (fun Bs=>BF O) fun B=>?_)));obtain⟨b22,_⟩:=B;refine D5 O (fun Bs=>CF O) fun _=>D5 O (fun Bs=>CF O) fun _=>D5 O (fun Bs=>BB BP O (A8 _)) fun _=>LQ O (fun Bs=>Cf FC bD O O Ag O O O Ah Ah Ah (RA (f:=Bp) (((ts.length:Nat):Int).toNat) false)) fun B=>?_;obtain⟨b26,cp⟩:=B;refine D5 O (fun Bs=>CF O) fun _=>D5 O (fun Bs=>BB BP O (A8 _)) fun _=>LQ O (fun Bs=>Cf BP Bj O O Ag O O O Ah Ah Ah (OP (((ts.length:Nat):Int).toNat) (.mk 0 0 ⟨#[]⟩ [] []:Tm))) fun B=>?_;obtain⟨b29,cp1⟩:=B;refine UI ?_
 change AL _ _ _ 9 ⟨86,_,[.box b22 [.p (.lstc [])],.vec (some b26) 1 (List.map Bp (List.replicate (((ts.length:Nat):Int).toNat) false)) cp,.vec (some b29) 5 (Ay (List.replicate (((ts.length:Nat):Int).toNat) (.mk 0 0 ⟨#[]⟩ [] []:Tm))) cp1],[]⟩ _
 refine Al O (B5 Ng dY O) (A5 O (BF O) fun b31=>Ak As 1 [] O (An As 1 [] O (Am (Ar (Bu O (Al O (BB BP O (A8 _)) (Ak As 1 [] O (A1 (BK (EM (t:=12) (sz:=10) O) ?_)))))))));refine BZ (α:=Nat×Option Nat×Nat) (fun(i,o,cp2)=>⟨86,mk [(2,.p (.lst (Ay [a]))),(3,.p (.lst (Ay [b]))),(11,.ptr b31 0),(12,.vs o (List.map Bg (([a].take i).zip ([b].take i))).length cp2),(13,.p .any),(33,.p (I ([a].length:Nat))),(34,.p (I (i:Int)))],[.vec o 10 (List.map Bg (([a].take i).zip ([b].take i))) cp2,.box b31 [.ptr b22 0,.p (.lst (List.map Br ds)),.vs (some b26) (List.map Bp (List.replicate (ts.length) false)).length cp,.vs (some b29) (Ay (List.replicate (ts.length) BH)).length cp1],.box b22 [.p (.lstc [])],.vec (some b26) 1 (List.map Bp (List.replicate (ts.length) false)) cp,.vec (some b29) 5 (Ay (List.replicate (ts.length) BH)) cp1],[]⟩) (fun(i,o,cp2)=>[a].length - i) (fun(i,o,cp2)=>i≤[a].length) ⟨0,none,0⟩ AK ?_ ?_
 ·exact BM ⟨we O,we O,we O,we (HC (f:=Bg) [] Ai),Jd _,we O,we O,Aj⟩ (leH (is:=[0,1,2,3,4]) O (wl (GR (f:=Bg) [] Ai) (wl (oe O) (wl (oe O) (wl (oe O) (wl (oe O) (C8)))))))
 rintro⟨i,o,cp2⟩ hC
 try simp only at hC
 have hi:=hC;refine An As 1 [] O (Am (Ao O (fun c1=>?_) (fun c1=>?_)))
 ·(try simp only[sd,se] at c1);refine Aq (Am (A1 (An As 2 [] O (By (fun k=>Nat.beq k 11) Eg (BU As 3 [] O ?_)))));obtain⟨y,hy⟩:=A0 (l:=[a]) (i:=i) Ah;refine BG O (fun _=>A3 BP O O Ah (Be hy) (A7 _)) Aj (BU As 3 [] O ?_);obtain⟨y1,hy1⟩:=A0 (l:=[b]) (i:=i) Ah;refine BG O (fun _=>A3 BP O O Ah (Be hy1) (A7 _)) Aj (BG O (fun _=>BL Bf O (A7 _)) Aj ?_);obtain⟨yk,yi,yn,yl,ys⟩:=y;obtain⟨y1k,y1i,y1n,y1l,y1s⟩:=y1;refine BG O (fun _=>B5 YB GG O) Aj (BG O (fun _=>Bi (rows:=List.map Bg [((.mk yk yi yn yl ys:Tm),(.mk y1k y1i y1n y1l y1s:Tm))]) Km GG O O O O (CP (FH _)) (R2 _)) Aj (KU [] O O (Cb (i:=0) (rows':=List.map Bg [((.mk yk yi yn yl ys:Tm),(.mk y1k y1i y1n y1l y1s:Tm))]) Km Km GG O O O O O O (FH _) Ac (I2 (f:=Bg) (([a].take i).zip ([b].take i)) [((.mk yk yi yn yl ys:Tm),(.mk y1k y1i y1n y1l y1s:Tm))])) Ad fun o1 cp3=>⟨AB,Aj,?_⟩));refine B1 As 1 [] O (Au (Ak As 2 [] O ?_));refine⟨⟨i+1,o1,cp3⟩,AN,by omega,BM ⟨we rfl,we rfl,we rfl,we (HC (f:=Bg) ((([a].take i).zip ([b].take i))++[((.mk yk yi yn yl ys:Tm),(.mk y1k y1i y1n y1l y1s:Tm))]) (Jg hy hy1)),Jd _,we rfl,we rfl,trivial⟩ (leH (is:=[0,1,2,3,4]) rfl (wl (GR (f:=Bg) ((([a].take i).zip ([b].take i))++[((.mk yk yi yn yl ys:Tm),(.mk y1k y1i y1n y1l y1s:Tm))]) (Jg hy hy1)) (wl (oe rfl) (wl (oe rfl) (wl (oe rfl) (wl (oe rfl) (C8)))))))⟩
 (try simp only[sd,se] at c1);generalize hK:(([a].take i).zip ([b].take i))=K;obtain rfl:K=[(a,b)]:=by rw[←hK];rw[show i=1 by omega];rfl
 refine Bc (Ar (Ap As 5 [1] O (CJ (CX (i:=0) [12,54] O (DV ⟨O,O,Aj⟩)) ?_)));refine Hj [1] O O O (.inl ⟨O,O,O⟩) (WT b22 (a,b)) ⟨_,_,O,O,O⟩ Ag (aw (we O) (aw (we O) HX)) ?_ (fun _ _ ⟨_,_,h,_⟩=>by cases h);rintro _ _ ⟨on,cn,h,rfl⟩;cases h;refine BR O (Am (An As 1 [] O (A1 ?_)));refine BZ (α:=Nat×List (Tm×Tm)×List Bool×List Tm×Int×Option Nat×Nat×Option Nat×Nat×Option Nat×Nat) (fun(n,es,kn2,vs2,lf,o1,cp3,o2,cp4,o3,cp5)=>⟨86,mk [(11,.ptr b31 0),(14,.p (I lf))],[.vec o3 10 (List.map Bg es) cp5,.box b22 [.vs o3 (List.map Bg es).length cp5],.box b31 [.ptr b22 0,.p (.lst (List.map Br ds)),.vs o1 (List.map Bp kn2).length cp3,.vs o2 (Ay vs2).length cp4],.vec o1 1 (List.map Bp kn2) cp3,.vec o2 5 (Ay vs2) cp4],[]⟩) (fun(n,es,kn2,vs2,lf,o1,cp3,o2,cp4,o3,cp5)=>n) (fun(n,es,kn2,vs2,lf,o1,cp3,o2,cp4,o3,cp5)=>Ib ds n es kn2 vs2 e kn3 vs3∧(n:Int)≤lf∧lf≤100000) ⟨n,[(a,b)],List.replicate ts.length false,List.replicate ts.length BH,100000,(some b26),cp,(some b29),cp1,on,cn⟩ (⟨h3,by omega,by omega⟩) ?_ ?_
 ·exact BM ⟨we O,we O,Aj⟩ (leH (is:=[0,1,2,3,4]) O (wl (oe O) (wl (oe O) (wl (oe O) (wl (oe O) (wl (oe O) (C8)))))))
 rintro⟨n,es,kn2,vs2,lf,o1,cp3,o2,cp4,o3,cp5⟩ hC1
 try simp only at hC1
 obtain⟨hC,hle⟩:=hC1;refine Am (Ar (Ap As 6 [2,1] O (Al O (DP HW O (List.length_map _)) (Ak As 1 [] O (Ao O (fun c2=>?_) (fun c2=>?_))))))
 ·(try simp only[sd,se] at c2);obtain⟨m,x,rfl,rfl,hr⟩:=hC.cons (by simpa using c2);refine Aq (Am (A1 (Am (An As 2 [] O (Ao O (fun c3=>?_) (fun c3=>?_))))))
  ·(try simp only[sd,se] at c3);exfalso;omega
  (try simp only[sd,se] at c3);refine Aq (Am ?_);rcases hr with ⟨es2,kn4,vs4,hS,he,hk3,hv3⟩ | ⟨es2,kn4,vs4,hS,hR⟩
  ·refine Au (Ap As 5 [2] O (GO (i:=0) O Ai fun b1 hb=>?_));subst hb;refine Al O (Bq [1,0] O (.inl ⟨O,O,O⟩) (UJ b22 b1 cp5 x) ⟨_,_,O,O,⟨_,_,O,O,O⟩⟩ Ag O (.inl O)) ?_;refine JY [2,1,0,3,4] O O O (.inl ⟨O,O,O⟩) (hS b31 b22 (some b1) o1 o2 cp5 cp3 cp4) ⟨_,_,O,O,⟨_,_,O,O,⟨_,_,O,O,⟨_,_,O,O,⟨_,_,O,O,O⟩⟩⟩⟩⟩ Ag (aw (we O) (aw (we O) HX)) ?_ (fun _ _ ⟨_,_,h,_⟩=>by cases h);rintro _ _ ⟨on1,cn1,h,rfl⟩;cases h;refine⟨O,?_⟩;refine Ak As 1 [] O (An As 2 [] O (Ao O (fun c4=>?_) (fun c4=>?_)))
   ·(try simp only[sd,se] at c4);refine An As 4 [] O (BK (GQ 8) (BK (GQ 9) (Av (⟨O,_,_,⟨_,_,O,O,⟨_,_,O,O,⟨_,_,O,O,O⟩⟩⟩,(List.nil_sublist _),?_⟩))))
    all_goals exact⟨by show (.tup [.p (.lst (List.map Bp [])),.p (.lst (Ay [])),.p (I e)]:AV)=_;rw[hk3,hv3],rfl⟩
   (try simp only[sd,se] at c4);exfalso;simp_all
  refine Au (Ap As 5 [2] O (GO (i:=0) O Ai fun b1 hb=>?_));subst hb;refine Al O (Bq [1,0] O (.inl ⟨O,O,O⟩) (UJ b22 b1 cp5 x) ⟨_,_,O,O,⟨_,_,O,O,O⟩⟩ Ag O (.inl O)) ?_;refine JY [2,1,0,3,4] O O O (.inl ⟨O,O,O⟩) (hS b31 b22 (some b1) o1 o2 cp5 cp3 cp4) ⟨_,_,O,O,⟨_,_,O,O,⟨_,_,O,O,⟨_,_,O,O,⟨_,_,O,O,O⟩⟩⟩⟩⟩ Ag (aw (we O) (aw (we O) HX)) ?_ (fun _ _ ⟨_,_,h,_⟩=>by cases h);rintro _ _ ⟨on1,cn1,h,rfl⟩;cases h;refine⟨O,?_⟩;refine Ak As 1 [] O (An As 2 [] O ?_);refine Ao O (fun c4=>by cases c4) (fun c4=>?_);refine Aq (Au (Ak As 3 [] O ?_));refine⟨⟨m,es2,kn4,vs4,lf - 1,o1,cp3,o2,cp4,on1,cn1⟩,AN,⟨hR,by omega,by omega⟩,BM ⟨we rfl,we rfl,trivial⟩ (leH (is:=[0,1,2,3,4]) rfl (wl (oe rfl) (wl (oe rfl) (wl (oe rfl) (wl (oe rfl) (wl (oe rfl) (C8)))))))⟩
 (try simp only[sd,se] at c2);obtain⟨he0,hk0,hv0⟩:=hC.nil (by simpa using c2);refine Bc (Am (By (fun k=>false) Eg (B1 As 11 [2,2] O (BK (Ch (i:=3) (j:=2) (q:=2) [81,8] O O O (DV ⟨O,O,Aj⟩)) (BK (Ch (i:=3) (j:=2) (q:=3) [85,9] O O O (DV ⟨O,O,Aj⟩)) (Av (⟨O,_,_,⟨_,_,O,O,⟨_,_,O,O,⟨_,_,O,O,O⟩⟩⟩,(List.nil_sublist _),?_⟩)))))))
 all_goals exact⟨by show (.tup [.p (.lst (List.map Bp kn2)),.p (.lst (Ay vs2)),.p (I 0)]:AV)=_;rw[he0,hk0,hv0],rfl⟩
end Go.Proofs.YtifphifongokcaaGreat
namespace Go.Eu
open Go.Abs
section
variable {E:List Bx}{σ:Type}{S:Sys σ}{R:σ→σ→Prop}
structure cX (S:Sys σ) (R:σ→σ→Prop):Prop where
 rf:∀s,R s s
 tr:∀{a b c},R a b→R b c→R a c
 rs:∀{s t e s'},S.res s t e=some s'→R s s'
variable (h:cX S R)
include h
end
def ja (n:Int):Except Int Unit:=if n - 1<0 then .error 0 else .ok ()
def kA (n:Int) (x:Tm×Int):Except Int (Tm×Int):=if n - 1<0∨x.2≠0 then .error 0 else .ok (x.1,n - 1)
end Go.Eu
namespace Go.Eu
end Go.Eu
namespace Go.Eu
open Go.Abs
section
variable {α:Type}{n n2 e:Int}{x:Tm×Int}{z t:Tm}{k:Tm→Int→Out α}{u:Unit}
end
section
variable {E:List Bx}{g m:Tm}{a:List Tm}{s e:Int}{d:Bx}{u:Unit}
end
end Go.Eu
namespace Go.Eu
end Go.Eu
namespace Go.Eu
open Go.Abs
structure Lt (c:Gz):Prop where
 ov:c.over=false
 lm:c.limit=1000
 s0:0≤c.steps
 s1:c.steps≤1000
 n0:0≤c.nodes
 n1:c.nodes≤2000
section
variable {E:List Bx}
structure fZ (c c':Gz) (z z':Nat):Prop where
 lt:Lt c'
 st:c.steps≤c'.steps
 nd:c.nodes≤c'.nodes
 sz:(z':Int)≤z+(c'.nodes - c.nodes)
def SW (n:Nat) (W:Gz→Tm→Out (Tm×Gz)) (V:Int→Tm→Out (Tm×Int)):Prop:=∀c t r c',Lt c→W c t= .ok (r,c')→c'.over=false→(size t:Int)≤30000+c.nodes →
 fZ c c' (size t) (size r)∧∀l:Int,1000 - c.steps≤l→V l t= .ok (r,l - (c'.steps - c.steps))
variable {n:Nat}{W:Gz→Tm→Out (Tm×Gz)}{V:Int→Tm→Out (Tm×Int)}
structure jy (c c':Gz) (z:Nat) (q:Option Tm):Prop where
 lt:Lt c'
 st:c.steps≤c'.steps
 nd:c.nodes≤c'.nodes
 sz:∀x,q=some x→(size x:Int)≤z+(c'.nodes - c.nodes)
end
section
variable {E:List Bx}{n:Nat}
end
section
variable {E:List Bx}
def jB {α:Type}(c:Gz) (o:Int→Out (α×Int)) (q:α):Prop:=∀l:Int,1000 - c.steps≤l→∃l',o l= .ok (q,l')
end
section
variable {E:List Bx}
end
section
variable {E:List Bx}
def LW (W:Int→Tm→Out (Tm×Int)):Prop:=∀l t r l' k,0≤k→W l t= .ok (r,l')→W (l+k) t= .ok (r,l'+k)
structure Exit (E:List Bx) (n:Nat) (l:Int) (a:Tm) (l':Int):Prop where
 many:XZ.many (A4 a).2.length=false
 lam:(A4 a).1.kind=5→(A4 a).2.length=0
 lt:(A4 a).1.kind≠11
 proj:(A4 a).1.kind=9∨(A4 a).1.kind=10→∃p,(A4 a).1=P8 (A4 a).1.kind p∧okB p=true∧p.kind≠8∧SA E XZ n l p= .ok (p,l')∧a=apply (A4 a).1 (A4 a).2
 con:(A4 a).1.kind=3→VV E XZ (SA E XZ n) n (A4 a).1 (A4 a).2 l= .ok (none,l')
 oth:(A4 a).1.kind≠9→(A4 a).1.kind≠10→(A4 a).1.kind≠3→l'=l
end
def jv {α:Type}:Out α→Int
 | .ok _=>0
 | _=>11
def jz {α:Type}(z:α):Out (α×Int)→α
 | .ok (a,_)=>a
 | _=>z
section
variable {α:Type}{o:Out (α×Int)}{a:α×Int}{z:α}{e:Int}
end
def iX (p:Int×List Int):List PV:=[I p.1,.lst (p.2.map Ix)]
def j8 (n:Nat):List (Int×List Int):=(List.range n).map fun i:Nat=>((i:Int),[])
structure Yt (a us:List Tm) (pl:List (Int×List Int)) (w:F4):Prop where
 ok:Xy a us pl
 nn:∀p∈pl,0≤p.1∧(∀q∈p.2,0≤q)∧p.2.length+HF w≤1000
theorem Yt.len {a us:List Tm}{pl:List (Int×List Int)}{w:F4}(h:Yt a us pl w):pl.length=us.length:=h.ok.len
theorem Yt.next {E:List Bx}{a us f:List Tm}{pl:List (Int×List Int)}{w q:F4}(h:Yt a us pl w) (hE:XP E) {i:Nat}{v:Tm}{p:Int×List Int}{d:Bx}{j:Int}{nm:ByteArray}(hv:us[i]?=some v) (hp:pl[i]?=some p) (hc:Gj E v=some (d,j,f)) (hb:Di nm w.branches=some q) (ho:Jm w):Yt a (us++f) (pl++IG p d.fixed f.length) q:=by
 have hcf:=I7 hc;obtain⟨b1,b2⟩:=Vy hb ho;have hfx:=(hE.all d hcf.mem).fx.1;have hmore:=h.ok.more hv hp hfx;rw[←hcf.fs] at hmore;obtain⟨n1,n2,n3⟩:=h.nn p (List.mem_of_getElem? hp);refine⟨hmore,fun r hr=>?_⟩;rcases List.mem_append.1 hr with hr | hr
 ·obtain⟨m1,m2,m3⟩:=h.nn r hr;exact⟨m1,m2,by omega⟩
 obtain⟨k,_,rfl⟩:=List.mem_map.1 hr;refine⟨n1,fun q hq=>?_,by simp only[List.length_append,List.length_cons,List.length_nil];omega⟩;rcases List.mem_append.1 hq with hq | hq
 ·exact n2 q hq
 have:=List.mem_singleton.1 hq;omega
theorem Yt.at_ {a us:List Tm}{pl:List (Int×List Int)}{w:F4}(h:Yt a us pl w) {i:Nat}{v:Tm}{p:Int×List Int}(hv:us[i]?=some v) (hp:pl[i]?=some p):0≤p.1∧(∀q∈p.2,0≤q)∧p.2.length≤1000∧p.1.toNat<a.length:=by
 obtain⟨n1,n2,n3⟩:=h.nn p (List.mem_of_getElem? hp);obtain⟨j,path,y,h1,h2,h3⟩:=h.ok.at_ i v hv;rw[hp] at h1;cases h1;exact⟨n1,n2,by omega,(List.getElem?_eq_some_iff.1 h2).1⟩
section
variable {E:List Bx}{σ:Type}{S:Sys σ}{T:σ→Tm→Out (Option Tm×σ)}{h:Tm}{ar:Int}{a us:List Tm}{n:Nat}{t:F4}{pl:List (Int×List Int)}{s:σ}{x:Tm}{p:Int×List Int}
def kK (h:Tm) (a:List Tm) (p:Int×List Int) (r:Option Tm×σ):Out (Option Tm×σ):=match r.1 with
 | none=> .ok (none,r.2)
 | some x=>match Un (a.getD p.1.toNat default) p.2 x with
  | none=> .stuck
  | some y=> .ok (some (apply h (a.set p.1.toNat y)),r.2)
end
def jX (E:List Bx) {σ:Type}(S:Sys σ) (n:Nat) (h:Tm) (a:List Tm) (s:σ):Out (Option Tm×σ):=match IN E h with
 | none=> .ok (none,s)
 | some x =>
  if x.kind=1 then Qy S (B3 E x.decl) h a s
  else if x.kind=5∧(a.length:Int) > Ee (B3 E x.decl) then match Gj E (a.getD (Ee (B3 E x.decl)).toNat default) with
   | some _=>Ui E S (B3 E x.decl) h a (a.getD (Ee (B3 E x.decl)).toNat default) s
   | none=>(Vj E S n s (a.getD (Ee (B3 E x.decl)).toNat default)).bind fun r=>match r.1 with
    | none=> .ok (none,r.2)
    | some y=> .ok (some (apply h (a.set (Ee (B3 E x.decl)).toNat y)),r.2)
  else if x.kind=6∧(a.length:Int)≥(Ek (B3 E x.decl) x.item).arity then
   aI E S (Vj E S n) h (Ek (B3 E x.decl) x.item).arity a n (Ek (B3 E x.decl) x.item).tree (a.take (Ek (B3 E x.decl) x.item).arity.toNat) (j8 (Ek (B3 E x.decl) x.item).arity.toNat) s
  else .ok (none,s)
section
variable {E:List Bx}{σ:Type}{S:Sys σ}{n:Nat}{h:Tm}{a:List Tm}{s:σ}{d:Bx}{x:Tm}
def j1 (h:Tm) (a:List Tm) (k:Nat) (r:Option Tm×σ):Out (Option Tm×σ):=match r.1 with
 | none=> .ok (none,r.2)
 | some y=> .ok (some (apply h (a.set k y)),r.2)
section
variable (hu:V9 E h=true) (hd:E[(B2 E h.name).1.decl.toNat]?=some d)
include hu hd
omit hd
end
end
section
variable {E:List Bx}{σ:Type}{S:Sys σ}{n:Nat}{t:Tm}{s:σ}{X:Out (Option Tm×σ)}
section
variable (ho:okB t=true)
include ho
def kM (h:Tm) (a:List Tm) (r:Option Tm×σ):Out (Option Tm×σ):=match r.1 with
 | none=> .ok (none,r.2)
 | some x=> .ok (some (apply (P8 h.kind x) a),r.2)
end
end
section
variable {E:List Bx}{σ:Type}{S:Sys σ}{n:Nat}{t:Tm}{s:σ}{r:Tm×σ}{d:Bx}{X:Out (Option Int×σ)}
noncomputable def fB (E:List Bx) (S:Sys σ) (n:Nat) (q:(Option (Tm×List Tm)×Tm)×σ):Out (Option Int×σ):=match q.1.1 with
 | some _=> .ok (none,q.2)
 | none=>if S.over q.2=false∧E9 q.1.2 BH=false then TY E S n q.2 q.1.2 else .ok (none,q.2)
noncomputable def j7 (E:List Bx) (S:Sys σ) (n:Nat) (r:Tm×σ):Out (Option Int×σ) :=
 if (A4 r.1).1.kind=12 then .ok (some (A4 r.1).1.index,r.2)
  else if (A4 r.1).1.kind=9∨(A4 r.1).1.kind=10 then match (A4 r.1).1.kids[0]? with
   | none=> .stuck
   | some p=>TY E S n r.2 p
  else if (A4 r.1).1.kind=3 then match IN E (A4 r.1).1 with
   | none=> .ok (none,r.2)
   | some x =>
    if S.over r.2=true then .ok (none,r.2)
    else if x.kind=5∧((A4 r.1).2.length:Int) > Ee (B3 E x.decl) then TY E S n r.2 ((A4 r.1).2.getD (Ee (B3 E x.decl)).toNat default)
    else if x.kind=6∧((A4 r.1).2.length:Int)≥(Ek (B3 E x.decl) x.item).arity then
     (Nb E S (SA E S n) n (Ek (B3 E x.decl) x.item).tree ((A4 r.1).2.take (Ek (B3 E x.decl) x.item).arity.toNat) BH r.2).bind (fB E S n)
    else .ok (none,r.2)
  else .ok (none,r.2)
section
variable (hk:(A4 r.1).1.kind=3) (hu:V9 E (A4 r.1).1=true) (ho:S.over r.2=false) (hd:E[(B2 E (A4 r.1).1.name).1.decl.toNat]?=some d)
include hk hu ho
include hd
end
end
section
variable {E:List Bx}{σ:Type}{S:Sys σ}{n:Nat}{t:F4}{a:List Tm}{s:σ}
def kL (S:Sys σ) (q:(Option (Tm×List Tm)×Tm)×σ):Out (Option Tm×σ):=match q.1.1 with
 | none=> .ok (none,q.2)
 | some (b,vars)=>if okB b=false∨vars.all okB=false∨1125899906842624≤BC vars then .stuck else S.put q.2 (Cz b vars.reverse 0) fun x s'=> .ok (some x,s')
end
def gZ (q:Tm):Bool:= !(decide ((size q:Int) > 4096)||decide (De q > 200))
def je:Out (Option Tm×Int)→Tm×Bool×Int
 | .ok (some q,_)=>if gZ q=true then (q,true,0) else (BH,false,11)
 | .ok (none,_)=>(BH,false,0)
 | _=>(BH,false,11)
def jg:Out (Option Tm×Int)→Tm×Bool×Int
 | .ok (q,_)=>(q.getD BH,q.isSome,0)
 | _=>(BH,false,11)
def kR:Out (Option Int×Int)→Int×Bool×Int
 | .ok (q,_)=>(q.getD 0,q.isSome,0)
 | _=>(0,false,11)
def j4 (o:Out (Option Tm×Int)):Prop:=∀q c,o= .ok (some q,c)→okB q=true
section
variable {o:Out (Option Tm×Int)}{q:Option Tm}{c e:Int}
end
section
variable {o:Out (Option Int×Int)}{q:Option Int}{c e:Int}
end
section
variable {E:List Bx}{σ:Type}{S:Sys σ}{W:σ→Tm→Out (Tm×σ)}
end
def e8 (d:Bx):Prop:=(d.kind≠1→d.kind≠2→d.value=BH)∧(d.kind≠3→d.recs.rules.length=0∧d.fixed=0)∧(d.kind≠4→d.funs.length=0)
def ej (d:Bx):Prop:=0≤d.fixed∧(∀f∈d.funs,1≤f.arity∧f.arity≤16)∧(d.kind=3→d.fixed≤1000000)
def gX (d:Bx):Prop:=(d.kind=1∨d.kind=2→okB d.value=true)∧(d.kind=3→∀t∈d.recs.rules,okB t=true)∧(d.kind=4→∀f∈d.funs,Jm f.tree)
def iq (d:Bx):Prop:=size d.value≤400∧(∀t∈d.recs.rules,size t≤400)∧∀f∈d.funs,HF f.tree≤50
structure fc (ds:List Bx) (l:List Tm):Prop where
 env:S5 ds
 ok:∀t∈l,okB t=true
 sz:BC l≤60
 few:ds.length≤70
def vT (i:Int):Tm:= .mk 0 i ⟨#[]⟩ [] []
def DO (nm:ByteArray):Tm:= .mk 3 0 nm [] []
def CO:ByteArray:=⟨#[78,97,116]⟩
def FY:ByteArray:=⟨#[122,101,114,111]⟩
def F9:ByteArray:=⟨#[115,117,99,99]⟩
def Yk:ByteArray:=⟨#[112,108,117,115]⟩
def LD (b:Tm):Tm:=if (B4 1 0 0 0 b).2≠0 then BH else (B4 1 0 0 0 b).1
def NM (a b:Tm):Tm:= .mk 6 0 ⟨#[]⟩ [] [a,LD b]
def Gc:Bx:=⟨3,CO,0,.mk 2 0 ⟨#[]⟩ [⟨0,[]⟩] [],BH,0,[⟨FY,DO CO⟩,⟨F9,NM (DO CO) (DO CO)⟩],⟨0,DO CO,[DO CO,DO CO]⟩,[]⟩
def Yy:F4:= .mk 1 BH 0 [.mk FY false (.mk 0 (vT 0) 0 []),.mk F9 false (.mk 0 (apply (DO F9) [apply (DO Yk) [vT 0,vT 1]]) 0 [])]
def eU:Bx:=⟨4,⟨#[]⟩,0,BH,BH,0,[],⟨0,BH,[]⟩,[⟨Yk,NM (DO CO) (NM (DO CO) (DO CO)),2,Yy⟩]⟩
def jA:List Bx:=[Gc,eU]
theorem XJ (nm:ByteArray) (h:nm.size<Cr):Nd (DO nm):=by
 simp only[DO,Nd,Ej,List.length_nil,Cr];simp only[Cr] at h;exact⟨h,by omega,by simp,by omega,trivial,by simp[Gy],by simp[Gy]⟩
theorem ec:Nd (NM (DO CO) (DO CO)):=by
 have h:LD (DO CO)=DO CO:=by rfl
 have h1:=XJ CO Ag;rw[NM,h];simp only[Nd,Ej,List.length_nil,List.length_cons,Cr];exact⟨by decide,by omega,by simp,by omega,⟨h1,h1,trivial⟩,by simp[Gy],by simp[Gy]⟩
def C6:List Bx:=[Gc]
def FQ:Tm:=DO CO
def Lp (nm:ByteArray) (x:Tm):Tm:= .mk 4 0 ⟨#[]⟩ [] [DO nm,x]
def GD:Tm:=Cn 1
def Qo:Tm:=Cn 0
theorem SJ:Nd (.mk 2 0 ⟨#[]⟩ [⟨0,[]⟩] []):=by
 refine⟨by decide,by decide,fun l hl=>?_,by decide,trivial,⟨by decide,by decide⟩,⟨by decide,by decide⟩⟩;simp only[List.mem_singleton] at hl;subst hl;exact⟨by decide,⟨by decide,by decide⟩,by simp⟩
theorem GN:C3 C6:=by
 have s1:VQ (DO CO):=⟨XJ CO Ag,by decide⟩;have s2:VQ (NM (DO CO) (DO CO)):=⟨ec,by decide⟩;have s0:VQ BH:=⟨GU,by decide⟩;refine⟨by decide,fun d hd=>?_⟩;obtain rfl:d=Gc:=by simpa [C6] using hd
 refine⟨by decide,⟨SJ,by decide⟩,s0,by decide,?_,s1,by decide,?_,by decide,fun f hf=>by cases hf⟩
 ·intro c hc;simp only[Gc,List.mem_cons,List.not_mem_nil,or_false] at hc;rcases hc with rfl | rfl
  ·exact⟨by decide,s1⟩
  exact⟨by decide,s2⟩
 intro c hc;simp only[Gc,List.mem_cons,List.not_mem_nil,or_false,or_self] at hc;subst hc;exact s1
theorem WQ (last:Int):Dl FQ [] 0 FQ last=some []:=by
 unfold Dl;rw[if_pos ⟨rfl,rfl,rfl⟩];rfl
theorem QD {c:Dk}(h:(BS c.type).2=FQ):∃x,ET FQ [] 0 c=some x:=by
 unfold ET;rw[if_pos ⟨Nat.zero_le _,rfl⟩,h,WQ];exact⟨_,O⟩
theorem Xn:∃f,Ml Gc= .ok f∧f.sort.kind=2:=by
 obtain⟨x,hx⟩:=QD (c:=⟨FY,DO CO⟩) rfl;obtain⟨y,hy⟩:=QD (c:=⟨F9,NM (DO CO) (DO CO)⟩) rfl;have hz:Dt (PW Gc.name Gc.params) ((BS Gc.type).1.take Gc.fixed.toNat) ((BS Gc.type).1.drop Gc.fixed.toNat).length Gc.ctors=some [x,y]:=by
  show Dt FQ [] 0 [⟨FY,DO CO⟩,⟨F9,NM (DO CO) (DO CO)⟩]=_;simp only[Dt,hx,hy,Option.map_some]
 exact⟨_,YO Ag Ag hz,O⟩
theorem XY:UH Gc:=by
 obtain⟨f,h1,h2⟩:=Xn;refine⟨⟨?_,by decide,by decide,by decide,?_⟩,by decide,by unfold Pu;rw[h1],by unfold PB;rw[h1];exact h2,by decide⟩
 ·exact SJ
 intro c hc;simp only[Gc,List.mem_cons,List.not_mem_nil,or_false] at hc;rcases hc with rfl | rfl
 ·exact⟨XJ CO Ag,by decide⟩
 exact⟨ec,by decide⟩
theorem TT {i:Int}(h:∃(j:Nat) (d:Bx),C6[j]?=some d∧i=(j:Int)):B3 C6 i=Gc:=by
 obtain⟨j,d,hd,rfl⟩:=h;cases j with
 | zero=>rfl
 | succ j=>simp[C6] at hd
theorem E8:Dh C6:=by
 intro nm h;have hd:(Ca C6 nm).1=Gc:=by
  unfold Ca Eb at h ⊢;by_cases h0:(B2 C6 nm).2≠0
  ·rw[if_pos h0] at h;cases h
  rw[if_neg h0] at h ⊢;obtain⟨i,d,hd,ho⟩:=MG (by simpa using h0);have e:B3 C6 (B2 C6 nm).1.decl=Gc:=TT ⟨i,d,hd,ho.decl⟩;by_cases h3:(B2 C6 nm).1.kind=3
  ·rw[if_pos h3];exact e
  rw[if_neg h3] at h ⊢;by_cases h4:(B2 C6 nm).1.kind=4
  ·rw[if_pos h4];exact e
  rw[if_neg h4] at h ⊢;by_cases h5:(B2 C6 nm).1.kind=5
  ·rw[if_pos h5];exact e
  rw[if_neg h5] at h;cases h
 rw[hd];exact XY
def NJ:List Bool:=[false,false]
def NC:List Tm:=[BH,BH]
def Oi:Tm:=Lp F9 GD
def I6:Tm:=Lp F9 Qo
def Oq:Tm:=Lp F9 I6
def Wo:Tm:= .mk 9 0 ⟨#[]⟩ [] [GD]
theorem US:Ca C6 F9=(Gc,1,true):=by rfl
theorem Uf:Ca C6 FY=(Gc,0,true):=by rfl
theorem IF (x:Tm):Ci C6 (Lp F9 x)=some ⟨CO,F9,[],[x]⟩:=by
 have hs:A4 (Lp F9 x)=(DO F9,[x]):=by rfl
 unfold Ci;rw[hs];simp only[DO,Tm.kind,Tm.name,Tm.levels,US];rw[if_neg Ag,if_neg Ag,if_neg (by simp[Gd,Gc,NM,BS];decide)];rfl
theorem T3:Ci C6 (DO FY)=some ⟨CO,FY,[],[]⟩:=by
 have hs:A4 (DO FY)=(DO FY,[]):=by rfl
 unfold Ci;rw[hs];simp only[DO,Tm.kind,Tm.name,Tm.levels,Uf];rw[if_neg Ag,if_neg Ag,if_neg Ag];rfl
theorem UE:Ci C6 Wo=none:=Um Ag
theorem O3 {x:Tm}(h:okB (Lp F9 x)=true):Tn C6 (Lp F9 x) :=
 ⟨h,by show ([x]:List Tm).length≤1000;simp,.inl ⟨h,by show ([x]:List Tm).length≤1000;simp,.inr ⟨rfl,fun _=>rfl⟩⟩⟩
theorem Wg:Tn C6 (DO FY) :=
 ⟨by decide,by decide,.inl ⟨by decide,by decide,.inr ⟨rfl,fun _=>rfl⟩⟩⟩
theorem U4 {i:Int}(h:0≤i∧i<1000):Tn C6 (Cn i) :=
 ⟨(G6 C6 h).ok,(G6 C6 h).len,.inl (G6 C6 h)⟩
theorem Zc:Tn C6 Wo :=
 ⟨by decide,by decide,.inr ⟨9,1,.inl rfl,rfl,by decide,by decide,by decide⟩⟩
theorem Zv {t:Tm}(h:Tn C6 t) (hs:size t<1000000) (hu:(CZ t (CN NJ NC) 0).2=0) (he:(CZ t (CN NJ NC) 0).1=t):Ev C6 NJ NC t t :=
 ⟨X5 (n:=2) h.ok hs Ag,hu,by unfold F8;rw[if_pos hu,he],h⟩
theorem Wf:Ev C6 NJ NC GD GD:=Zv (U4 ⟨by decide,by decide⟩) Ag Ag (by rfl)
theorem gG:Ev C6 NJ NC Qo Qo:=Zv (U4 ⟨by decide,by decide⟩) Ag Ag (by rfl)
theorem Ql:Ev C6 NJ NC Oi Oi:=Zv (O3 Ag) Ag Ag (by rfl)
theorem Ym:Ev C6 NJ NC I6 I6:=Zv (O3 Ag) Ag Ag (by rfl)
theorem ZM:Ev C6 NJ NC Oq Oq:=Zv (O3 Ag) Ag Ag (by rfl)
theorem Wx:Ev C6 NJ NC (DO FY) (DO FY):=Zv Wg Ag Ag (by rfl)
theorem YT:Ev C6 NJ NC Wo Wo:=Zv Zc Ag Ag (by rfl)
theorem bG:Kt NJ NC 1 I6:=⟨rfl,by decide,by decide,by decide,by decide,by decide,by decide,by rfl,by decide⟩
theorem cO:Kt NJ NC 0 GD:=⟨rfl,by decide,by decide,by decide,by decide,by decide,by decide,by rfl,by decide⟩
end Go.Eu
namespace Go.Proofs.YtifphifongokcaaGreat
open Go.Abs Go.Eu
theorem Vx:∀(t:Tm) (by' fr:Int),(Nd t)→(size t<1000000)→(by'=1)→(fr=0)→Df Tryz.prog 93 [.agg ((BQ t).map .p),.p (I by'),.p (I fr)] (.tup [.agg ((BQ (LD t)).map .p),.p (I ((B4 1 0 0 0 t).2))]):=by
 intro t by' fr h1 h2 h3 h4
 refine Aw Tryz.func93 O iG (n:=40) O O (Ar (A5 O (BF O) fun b3=>A5 O (Az Bj O) fun b6=>Ak As 1 [] O (Am (Am (BO [1,2,3,6] 19 (fun y=>y= .p (.bool (((decide ((fr:Int)<(0:Int)))||(decide ((by':Int)<(-65536:Int))))||(decide ((by':Int) > (65536:Int)))))) ?_ ?_)))))
 ·refine Au (Ap As 3 [] O (BE 12 O (fun g=>?_) (fun g=>?_)))
  ·(try simp only[sd,se] at g);exact Ak As 7 [] O (⟨O,O,AG,AF,⟨O,O,O,O,Aj⟩⟩)
  (try simp only[sd,se] at g);refine Ap As 4 [] O (BE 16 O (fun g1=>?_) (fun g1=>?_))
  ·(try simp only[sd,se] at g1);exact Ak As 3 [] O (⟨O,O,AG,AF,⟨O,O,O,O,Aj⟩⟩)
  (try simp only[sd,se] at g1);exact Ak As 3 [] O (⟨O,O,AG,AF,⟨O,O,O,O,Aj⟩⟩)
 rintro _ rfl;refine Ao O (fun c=>?_) (fun c=>?_)
 ·(try simp only[sd,se] at c);refine An As 3 [0,0] O (BK (Bm (i:=0) O) (Av (⟨O,_,_,⟨_,_,O,(BD (i:=0) Bf O O O),⟨_,_,O,O,O⟩⟩,(List.nil_sublist _),?_⟩)))
  all_goals exact⟨by show (.tup [.agg [.p (I 0),.p (I 0),.p (.str ⟨#[]⟩),.p (.lst []),.p (.lst [])],.p (I 2)]:AV)=_;exfalso;omega,rfl⟩
 (try simp only[sd,se] at c);refine Aq (Ar (Al O (B5 YG Yf O) (A5 O (BF O) fun b22=>Ak As 1 [] O (Ar (Ap As 4 [2] O (Al O (Sn O O) (Al O (Bq [0] O (.inl ⟨O,O,O⟩) (Su _ t b22 by' (min (fr:Int) (65536:Int)) 0 0 0 (Nat.le_refl _) h1 Ah Ah) ⟨_,_,rfl,rfl,rfl⟩ Ag rfl (.inl rfl)) (A5 O (Az Bj O) fun b9=>Ak As 1 [0,1] O (Am (An As 5 [1] O (Ao O (fun c1=>?_) (fun c1=>?_))))))))))))
 ·(try simp only[sd,se] at c1);refine Am (By (fun k=>false) Eg (B1 As 7 [1,2,0] O (BK (Bm (i:=2) O) (Av (⟨O,_,_,⟨_,_,O,(BD (i:=2) Bf O O O),⟨_,_,O,O,O⟩⟩,(List.nil_sublist _),?_⟩)))))
  all_goals exact⟨by show (.tup [.agg [.p (I 0),.p (I 0),.p (.str ⟨#[]⟩),.p (.lst []),.p (.lst [])],.p (I ((B4 by' (min (fr:Int) (65536:Int)) 0 0 t).2))]:AV)=_;subst h3 h4;have c2:(B4 1 0 0 0 t).2≠0:=c1;rw[LD,if_pos c2];rfl,rfl⟩
 (try simp only[sd,se] at c1);refine Aq (An As 3 [0,2,1] O (Av (⟨O,_,_,⟨_,_,O,(BD (i:=2) Bf O O Aa),⟨_,_,O,O,O⟩⟩,(List.nil_sublist _),?_⟩)))
 all_goals exact⟨by show (.tup [.agg ((BQ ((B4 by' (min (fr:Int) (65536:Int)) 0 0 t).1)).map .p),.p (I 0)]:AV)=_;subst h3 h4;have c2:(B4 1 0 0 0 t).2=0:=c1;rw[LD,if_neg (fun h=>h c2),c2];rfl,rfl⟩
theorem aC:∀(a b:Tm),(Nd b)→(size b<1000000)→Df Tryz.prog 53 [.agg ((BQ a).map .p),.agg ((BQ b).map .p)] (.agg ((BQ (.mk 6 0 ⟨#[]⟩ [] [a,LD b])).map .p)):=by
 intro a b h1 h2;refine Aw Tryz.func53 O iN (n:=16) O O (Ar (A5 O (BF O) fun b2=>A5 O (BF O) fun b3=>A5 O (Az Bj O) fun b4=>BR O (Ar (Al O (Ba (i:=1) Bf O O Aa) (Al O (BA O O (Vx b 1 0 h1 h2 O O) O) (Ap As 3 [] O (A5 O (Az Bj O) fun b5=>Ak As 2 [0,1] O (Ar (Ap As 2 [3,0] O (Al O (Bi (rows:=Ay [a,(LD b)]) BP Bj O O O O (CP (CD _)) (Gk _)) (Ak As 2 [1,0] O (BK (Bm (i:=1) O) (Av (⟨O,_,_,⟨_,_,O,(BD (i:=1) Bf O O O),O⟩,(List.nil_sublist _),?_⟩))))))))))))))
 all_goals exact⟨rfl,rfl⟩
theorem Zz (l:List Dk):∀r∈l.map Ec,∀c∈r,c≠ .nils:=by
 intro r hr;obtain⟨t,_,rfl⟩:=List.mem_map.1 hr;intro c hc;simp only[Ec,List.mem_cons] at hc;rcases hc with rfl | hc
 ·simp
 exact il _ c hc
theorem gP:E9 Oi Oq=false:=CI (by intro h;simp[Oi,Oq,I6,Lp,DO,GD,Qo,Cn] at h)
theorem gE:E9 GD I6=false:=CI (by intro h;simp[I6,Lp,DO,GD,Qo,Cn] at h)
theorem iH:E9 GD Qo=false:=CI (by intro h;simp[GD,Qo,Cn] at h)
theorem fN:E9 (DO FY) Oi=false:=CI (by intro h;simp[Oi,Lp,DO,GD,Cn] at h)
theorem iD:E9 GD Oi=false:=CI (by intro h;simp[Oi,Lp,DO,GD,Cn] at h)
theorem gS:E9 Wo GD=false:=CI (by intro h;simp[Wo,GD,Cn] at h)
theorem u1:Ib C6 2 [(Oi,Oq)] NJ NC 0 [true,false] [I6,BH] :=
 .go 1 (Oi,Oq) _ _ [(GD,I6)] NJ NC _ _ _ (Xp GN E8 Ql ZM gP Ag Ag (IF GD) (IF I6) rfl rfl rfl rfl rfl rfl)
  (.go 0 (GD,I6) _ _ [] [true,false] [I6,BH] _ _ _ (SK GN E8 Wf Ym gE ⟨rfl,.inl Ag⟩ (VN bG)) (.done _ _ _))
theorem u2:Ib C6 2 [(GD,Qo)] NJ NC 0 [false,true] [BH,GD] :=
 .go 1 (GD,Qo) _ _ [] [false,true] [BH,GD] _ _ _ (Sr GN E8 Wf gG iH ⟨rfl,.inr Ag⟩ (VN cO)) (.done _ _ _)
theorem u3:Ib C6 2 [(DO FY,Oi)] NJ NC 20 [] [] :=
 .fail 1 (DO FY,Oi) _ _ 20 [] NJ NC (WJ GN E8 Wx Ql fN Ag Ag T3 (IF GD) rfl rfl rfl (fun h=>absurd (Gl h) Ag)) Ag
theorem u4:Ib C6 2 [(GD,Oi)] NJ NC 20 [] [] :=
 .fail 1 (GD,Oi) _ _ 20 [] NJ NC (SK GN E8 Wf Ql iD ⟨rfl,.inl Ag⟩ (ZX GN Ql.ok E8 Ag Ag (IF GD))) Ag
theorem u5:Ib C6 2 [(Wo,GD)] NJ NC 19 [] [] :=
 .fail 1 (Wo,GD) _ _ 19 [] NJ NC (Sr GN E8 YT Wf gS ⟨rfl,.inl Ag⟩ (Y9 GN YT.ok E8 Ag Ag UE)) Ag
theorem dm (ds:List Bx) (ts l r:List Tm) (h:ds=C6∧ts=[FQ,FQ]∧l=[Oi]∧r=[Oq]):Df Tryz.prog 54 [.p (.lst (List.map Br ds)),K8 ts,K8 l,K8 r] (.tup [.p (.lst (List.map Bp [true,false])),K8 [I6,BH],.p (I 0)]):=by
 obtain⟨rfl,rfl,rfl,rfl⟩:=h;exact Hz 2 C6 [FQ,FQ] _ _ _ _ _ Ag Ag u1
theorem dN (ds:List Bx) (ts l r:List Tm) (h:ds=C6∧ts=[FQ,FQ]∧l=[GD]∧r=[Qo]):Df Tryz.prog 54 [.p (.lst (List.map Br ds)),K8 ts,K8 l,K8 r] (.tup [.p (.lst (List.map Bp [false,true])),K8 [BH,GD],.p (I 0)]):=by
 obtain⟨rfl,rfl,rfl,rfl⟩:=h;exact Hz 2 C6 [FQ,FQ] _ _ _ _ _ Ag Ag u2
theorem bL (ds:List Bx) (ts l r:List Tm) (h:ds=C6∧ts=[FQ,FQ]∧l=[DO FY]∧r=[Oi]):Df Tryz.prog 54 [.p (.lst (List.map Br ds)),K8 ts,K8 l,K8 r] (.tup [.p (.lst (List.map Bp [])),K8 [],.p (I 20)]):=by
 obtain⟨rfl,rfl,rfl,rfl⟩:=h;exact Hz 2 C6 [FQ,FQ] _ _ _ _ _ Ag Ag u3
theorem eR (ds:List Bx) (ts l r:List Tm) (h:ds=C6∧ts=[FQ,FQ]∧l=[GD]∧r=[Oi]):Df Tryz.prog 54 [.p (.lst (List.map Br ds)),K8 ts,K8 l,K8 r] (.tup [.p (.lst (List.map Bp [])),K8 [],.p (I 20)]):=by
 obtain⟨rfl,rfl,rfl,rfl⟩:=h;exact Hz 2 C6 [FQ,FQ] _ _ _ _ _ Ag Ag u4
theorem aq (ds:List Bx) (ts l r:List Tm) (h:ds=C6∧ts=[FQ,FQ]∧l=[Wo]∧r=[GD]):Df Tryz.prog 54 [.p (.lst (List.map Br ds)),K8 ts,K8 l,K8 r] (.tup [.p (.lst (List.map Bp [])),K8 [],.p (I 19)]):=by
 obtain⟨rfl,rfl,rfl,rfl⟩:=h;exact Hz 2 C6 [FQ,FQ] _ _ _ _ _ Ag Ag u5
theorem HG (nm:ByteArray) (x:Tm):Df Tryz.prog 55 [.p (.str nm),K8 [x]] (TV (.mk 4 0 ⟨#[]⟩ [] [DO nm,x])):=WI nm [x] (by simp[Cr])
theorem Ux (nm:ByteArray):Df Tryz.prog 52 [.p (.str nm)] (TV (DO nm)):=R3 nm
theorem eM (a b:Tm) (h:a=DO CO∧b=DO CO):Df Tryz.prog 53 [TV a,TV b] (TV (NM (DO CO) (DO CO))):=by
 obtain⟨rfl,rfl⟩:=h;exact aC _ _ (XJ CO Ag) Ag
theorem Ya (a b:List Bool) (h1:a=b) (h2:a.length<Cr):Df Tryz.prog 56 [.p (.lst (List.map Bp a)),.p (.lst (List.map Bp b))] (.p (.bool true)):=by
 have:=U0 a b h2
 rwa [CR h1] at this
theorem PT (a b:Tm) (h1:okB a=true) (h2:a=b):Df Tryz.prog 10 [TV a,TV b] (.p (.bool true)):=by
 have:=Vd (size a) a b (Nat.le_refl _) (Da.1 h1).nd
 rwa [CR h2] at this
theorem aX (kn:List Bool) (vs:List Tm) (t:Tm) (h:kn=[true,false]∧vs=[I6,BH]∧t=Oi):Df Tryz.prog 18 [.p (.lst (List.map Bp kn)),K8 vs,TV t] (TV Oq):=by
 obtain⟨rfl,rfl,rfl⟩:=h;have q1:=Da.1 Ql.ok;have q2:=Da.1 Ym.ok;have q0:=(Da (t:=BH)).1 Ag;have all:∀{p:Tm→Prop},p I6→p BH→∀v∈[I6,BH],p v:=fun h1 h2 v hv=>by
  simp only[List.mem_cons,List.not_mem_nil,or_false] at hv;rcases hv with rfl | rfl<;>assumption
 exact Lk [true,false] [I6,BH] Oi ⟨O,by decide,q1.nd,q1.wt,q1.vp,by decide,all q2.nd q0.nd,all q2.wt q0.wt,all q2.vp q0.vp,all Ag Ag⟩
set_option maxHeartbeats 4000000 in
theorem Ty:Df Tryz.prog 15 [] (.p (.bool true)):=by
 refine Aw Tryz.func15 O gL (n:=181) O O (Am (D6 (M:=⟨181,mk [],[],[]⟩) (DL Aj (List.Sublist.refl _)) (Au (Ak As 1 [] O (Am (D6 (M:=⟨181,mk [],[],[]⟩) (DL Aj (List.Sublist.refl _)) (Au (Al O (BA O O (Ux ⟨#[78,97,116]⟩) O) (A5 O (Az Bj O) fun b1=>Ak As 1 [0,1] O (Am (D6 (M:=⟨181,mk [(1,.ptr b1 0)],[.box b1 ((BQ (.mk 3 0 ⟨#[78,97,116]⟩ [] [])).map .p)],[]⟩) (DL ⟨O,Aj⟩ (List.Sublist.refl _)) (Au (Al O (B5 (cs:=[.p (I 0),.p (.nils)]) Zs Li Ad) (Al O (BT (cs:=[.p (I 0),.p (.lst [])]) Eh Li O O Ad O O) (Al O (B5 (cs:=[.p (I 2),.p (I 0),.p (.str ⟨#[]⟩),.p (.lst (List.map Bz ([(CB.mk 0 [])]))),.p (.nils)]) D0 Bj Ad) (A5 O (Az Bj O) fun b2=>?_))))))))))))))));refine Al O (Bo (i:=0) (us:=[.p (I 2),.p (I 0),.p (.str ⟨#[]⟩),.p (.lst (List.map Bz ([(CB.mk 0 [])]))),.p (.nils)]) Bf O O O O O O) (BR O (Am (D6 (M:=⟨181,mk [(1,.ptr b1 0),(2,.ptr b2 0)],[.box b2 [.p (I 2),.p (I 0),.p (.str ⟨#[]⟩),.p (.lst (List.map Bz ([(CB.mk 0 [])]))),.p (.nils)],.box b1 ((BQ (.mk 3 0 ⟨#[78,97,116]⟩ [] [])).map .p)],[]⟩) (DL ⟨O,O,Aj⟩ (List.Sublist.refl _)) (By (fun k=>false) Eg (BU As 2 [0,1] O (BG O (fun _=>B5 (cs:=[.p (.str ⟨#[122,101,114,111]⟩),.p (I 3),.p (I 0),.p (.str ⟨#[78,97,116]⟩),.p (.lst (List.map Bz [])),.p (.lst (Ay []))]) Td Ud Ad) Aj (BU As 2 [1,1] O (BG O (fun _=>BA O O (eM (.mk 3 0 ⟨#[78,97,116]⟩ [] []:Tm) (.mk 3 0 ⟨#[78,97,116]⟩ [] []:Tm) ⟨O,O⟩) O) Aj ?_))))))));refine BG O (fun _=>B5 (cs:=[.p (.str ⟨#[115,117,99,99]⟩),.p (I 6),.p (I 0),.p (.str ⟨#[]⟩),.p (.lst (List.map Bz [])),.p (.lst (Ay [DO CO,LD (DO CO)]))]) Td Ud Ad) Aj (BG O (fun _=>Bi (rows:=List.map Ec ([(Dk.mk ⟨#[122,101,114,111]⟩ (.mk 3 0 ⟨#[78,97,116]⟩ [] []:Tm)),(Dk.mk ⟨#[115,117,99,99]⟩ (.mk 6 0 ⟨#[]⟩ [] [DO CO,LD (DO CO)]:Tm))])) RY Ud O O O O (CP (TD _)) (Zz _)) Aj (BU As 3 [1,1,1] O (BG O (fun _=>Bi (rows:=Ay ([(.mk 3 0 ⟨#[78,97,116]⟩ [] []:Tm),(.mk 3 0 ⟨#[78,97,116]⟩ [] []:Tm)])) BP Bj O O O O (CP (CD _)) (Gk _)) Aj ?_)));refine BG O (fun _=>B5 (cs:=[.p (I 0),.p (I 3),.p (I 0),.p (.str ⟨#[78,97,116]⟩),.p (.lst (List.map Bz [])),.p (.lst (Ay [])),.p (.lst (Ay ([(.mk 3 0 ⟨#[78,97,116]⟩ [] []:Tm),(.mk 3 0 ⟨#[78,97,116]⟩ [] []:Tm)])))]) fI fm Ad) Aj ?_
 refine BG O (fun _=>B5 (cs:=[.p (I 3),.p (.str ⟨#[78,97,116]⟩),.p (I 0),.p (I 2),.p (I 0),.p (.str ⟨#[]⟩),.p (.lst (List.map Bz ([(CB.mk 0 [])]))),.p (.nils),.p (I 0),.p (I 0),.p (.str ⟨#[]⟩),.p (.nils),.p (.nils),.p (I 0),.p (.lst (List.map Ec ([(Dk.mk ⟨#[122,101,114,111]⟩ (.mk 3 0 ⟨#[78,97,116]⟩ [] []:Tm)),(Dk.mk ⟨#[115,117,99,99]⟩ (.mk 6 0 ⟨#[]⟩ [] [DO CO,LD (DO CO)]:Tm))]))),.p (I 0),.p (I 3),.p (I 0),.p (.str ⟨#[78,97,116]⟩),.p (.lst (List.map Bz [])),.p (.lst (Ay [])),.p (.lst (Ay ([(.mk 3 0 ⟨#[78,97,116]⟩ [] []:Tm),(.mk 3 0 ⟨#[78,97,116]⟩ [] []:Tm)]))),.p (.nils)]) Gq Ub Ad) Aj ?_;refine BG O (fun _=>BT (cs:=[.p (I 3),.p (.str ⟨#[78,97,116]⟩),.p (I 0),.p (I 2),.p (I 0),.p (.str ⟨#[]⟩),.p (.lst (List.map Bz ([(CB.mk 0 [])]))),.p (.lst []),.p (I 0),.p (I 0),.p (.str ⟨#[]⟩),.p (.lst []),.p (.lst []),.p (I 0),.p (.lst (List.map Ec ([(Dk.mk ⟨#[122,101,114,111]⟩ (.mk 3 0 ⟨#[78,97,116]⟩ [] []:Tm)),(Dk.mk ⟨#[115,117,99,99]⟩ (.mk 6 0 ⟨#[]⟩ [] [DO CO,LD (DO CO)]:Tm))]))),.p (I 0),.p (I 3),.p (I 0),.p (.str ⟨#[78,97,116]⟩),.p (.lst (List.map Bz [])),.p (.lst (Ay [])),.p (.lst (Ay ([(.mk 3 0 ⟨#[78,97,116]⟩ [] []:Tm),(.mk 3 0 ⟨#[78,97,116]⟩ [] []:Tm)]))),.p (.lst [])]) N7 Ub O O Ad O O) Aj (B1 As 1 [] O (Am ?_));refine D6 (M:=⟨181,mk [(1,.ptr b1 0),(3,.p (.lst (List.map Br ([(Bx.mk 3 ⟨#[78,97,116]⟩ 0 (.mk 2 0 ⟨#[]⟩ ([(CB.mk 0 [])]) []:Tm) (.mk 0 0 ⟨#[]⟩ [] []:Tm) 0 ([(Dk.mk ⟨#[122,101,114,111]⟩ (.mk 3 0 ⟨#[78,97,116]⟩ [] []:Tm)),(Dk.mk ⟨#[115,117,99,99]⟩ (.mk 6 0 ⟨#[]⟩ [] [DO CO,LD (DO CO)]:Tm))]) (Nv.mk 0 (.mk 3 0 ⟨#[78,97,116]⟩ [] []:Tm) ([(.mk 3 0 ⟨#[78,97,116]⟩ [] []:Tm),(.mk 3 0 ⟨#[78,97,116]⟩ [] []:Tm)])) [])]))))],[.box b2 [.p (I 2),.p (I 0),.p (.str ⟨#[]⟩),.p (.lst (List.map Bz ([(CB.mk 0 [])]))),.p (.nils)],.box b1 [.p (I 3),.p (I 0),.p (.str ⟨#[78,97,116]⟩),.p (.lst (List.map Bz [])),.p (.lst (Ay []))]],[]⟩) (DL ⟨O,O,Aj⟩ (List.Sublist.refl _)) (Au (Ap As 2 [1,1] O ?_));refine Al O (Bi (rows:=Ay ([(.mk 3 0 ⟨#[78,97,116]⟩ [] []:Tm),(.mk 3 0 ⟨#[78,97,116]⟩ [] []:Tm)])) BP Bj O O O O (CP (CD _)) (Gk _)) (Ak As 1 [] O (Am ?_))
 refine D6 (M:=⟨181,mk [(3,.p (.lst (List.map Br ([(Bx.mk 3 ⟨#[78,97,116]⟩ 0 (.mk 2 0 ⟨#[]⟩ ([(CB.mk 0 [])]) []:Tm) (.mk 0 0 ⟨#[]⟩ [] []:Tm) 0 ([(Dk.mk ⟨#[122,101,114,111]⟩ (.mk 3 0 ⟨#[78,97,116]⟩ [] []:Tm)),(Dk.mk ⟨#[115,117,99,99]⟩ (.mk 6 0 ⟨#[]⟩ [] [DO CO,LD (DO CO)]:Tm))]) (Nv.mk 0 (.mk 3 0 ⟨#[78,97,116]⟩ [] []:Tm) ([(.mk 3 0 ⟨#[78,97,116]⟩ [] []:Tm),(.mk 3 0 ⟨#[78,97,116]⟩ [] []:Tm)])) [])])))),(4,.p (.lst (Ay ([(.mk 3 0 ⟨#[78,97,116]⟩ [] []:Tm),(.mk 3 0 ⟨#[78,97,116]⟩ [] []:Tm)]))))],[.box b2 [.p (I 2),.p (I 0),.p (.str ⟨#[]⟩),.p (.lst (List.map Bz ([(CB.mk 0 [])]))),.p (.nils)],.box b1 [.p (I 3),.p (I 0),.p (.str ⟨#[78,97,116]⟩),.p (.lst (List.map Bz [])),.p (.lst (Ay []))]],[]⟩) (DL ⟨O,O,Aj⟩ (List.Sublist.refl _)) (Au ?_);refine Al O (B5 (cs:=[.p (I 0),.p (I 1),.p (.str ⟨#[]⟩),.p (.nils),.p (.nils)]) D0 Bj Ad) (Al O (B5 (cs:=[.p (I 0),.p (I 0),.p (.str ⟨#[]⟩),.p (.nils),.p (.nils)]) D0 Bj Ad) (A5 O (Az Bj O) fun b5=>A5 O (Az Bj O) fun b6=>Al O (Bo (i:=1) (us:=[.p (I 0),.p (I 1),.p (.str ⟨#[]⟩),.p (.nils),.p (.nils)]) Bf O O O O O O) (Al O (Bo (i:=0) (us:=[.p (I 0),.p (I 0),.p (.str ⟨#[]⟩),.p (.nils),.p (.nils)]) Bf O O O O O O) (BR O (Am ?_)))));refine D6 (M:=⟨181,mk [(3,.p (.lst (List.map Br ([(Bx.mk 3 ⟨#[78,97,116]⟩ 0 (.mk 2 0 ⟨#[]⟩ ([(CB.mk 0 [])]) []:Tm) (.mk 0 0 ⟨#[]⟩ [] []:Tm) 0 ([(Dk.mk ⟨#[122,101,114,111]⟩ (.mk 3 0 ⟨#[78,97,116]⟩ [] []:Tm)),(Dk.mk ⟨#[115,117,99,99]⟩ (.mk 6 0 ⟨#[]⟩ [] [DO CO,LD (DO CO)]:Tm))]) (Nv.mk 0 (.mk 3 0 ⟨#[78,97,116]⟩ [] []:Tm) ([(.mk 3 0 ⟨#[78,97,116]⟩ [] []:Tm),(.mk 3 0 ⟨#[78,97,116]⟩ [] []:Tm)])) [])])))),(4,.p (.lst (Ay ([(.mk 3 0 ⟨#[78,97,116]⟩ [] []:Tm),(.mk 3 0 ⟨#[78,97,116]⟩ [] []:Tm)])))),(5,.ptr b5 0),(6,.ptr b6 0)],[.box b6 [.p (I 0),.p (I 0),.p (.str ⟨#[]⟩),.p (.nils),.p (.nils)],.box b5 [.p (I 0),.p (I 1),.p (.str ⟨#[]⟩),.p (.nils),.p (.nils)],.box b2 [.p (I 2),.p (I 0),.p (.str ⟨#[]⟩),.p (.lst (List.map Bz ([(CB.mk 0 [])]))),.p (.nils)],.box b1 [.p (I 3),.p (I 0),.p (.str ⟨#[78,97,116]⟩),.p (.lst (List.map Bz [])),.p (.lst (Ay []))]],[]⟩) (DL ⟨O,O,O,O,Aj⟩ (List.Sublist.refl _)) ?_
 refine By (fun k=>false) Eg (BU As 3 [1] O (BG O (fun _=>BT (cs:=[.p (I 0),.p (I 1),.p (.str ⟨#[]⟩),.p (.lst []),.p (.lst [])]) BP Bj O O Ad O O) Aj (BG O (fun _=>BA O O (HG ⟨#[115,117,99,99]⟩ GD) O) Aj (BG O (fun _=>Bi (rows:=Ay ([(.mk 4 0 ⟨#[]⟩ [] [(.mk 3 0 ⟨#[115,117,99,99]⟩ [] []:Tm),GD])])) BP Bj O O O O (CP (CD _)) (Gk _)) Aj (BU As 1 [0] O (BG O (fun _=>BT (cs:=[.p (I 0),.p (I 0),.p (.str ⟨#[]⟩),.p (.lst []),.p (.lst [])]) BP Bj O O Ad O O) Aj (BG O (fun _=>BA O O (HG ⟨#[115,117,99,99]⟩ Qo) O) Aj (BG O (fun _=>Bi (rows:=Ay ([(.mk 4 0 ⟨#[]⟩ [] [(.mk 3 0 ⟨#[115,117,99,99]⟩ [] []:Tm),Qo])])) BP Bj O O O O (CP (CD _)) (Gk _)) Aj ?_))))))));refine BG O (fun _=>BA O O (HG ⟨#[115,117,99,99]⟩ I6) O) Aj (BG O (fun _=>Bi (rows:=Ay ([(.mk 4 0 ⟨#[]⟩ [] [(.mk 3 0 ⟨#[115,117,99,99]⟩ [] []:Tm),I6])])) BP Bj O O O O (CP (CD _)) (Gk _)) Aj ?_);refine BG O (fun _=>BA O O (dm ([(Bx.mk 3 ⟨#[78,97,116]⟩ 0 (.mk 2 0 ⟨#[]⟩ ([(CB.mk 0 [])]) []:Tm) (.mk 0 0 ⟨#[]⟩ [] []:Tm) 0 ([(Dk.mk ⟨#[122,101,114,111]⟩ (.mk 3 0 ⟨#[78,97,116]⟩ [] []:Tm)),(Dk.mk ⟨#[115,117,99,99]⟩ (.mk 6 0 ⟨#[]⟩ [] [DO CO,LD (DO CO)]:Tm))]) (Nv.mk 0 (.mk 3 0 ⟨#[78,97,116]⟩ [] []:Tm) ([(.mk 3 0 ⟨#[78,97,116]⟩ [] []:Tm),(.mk 3 0 ⟨#[78,97,116]⟩ [] []:Tm)])) [])]) ([(.mk 3 0 ⟨#[78,97,116]⟩ [] []:Tm),(.mk 3 0 ⟨#[78,97,116]⟩ [] []:Tm)]) ([(.mk 4 0 ⟨#[]⟩ [] [(.mk 3 0 ⟨#[115,117,99,99]⟩ [] []:Tm),GD])]) ([(.mk 4 0 ⟨#[]⟩ [] [(.mk 3 0 ⟨#[115,117,99,99]⟩ [] []:Tm),I6])]) ⟨O,O,O,O⟩) O) Aj (B1 As 7 [] O (Am (Am ?_)))
 refine D6 (M:=⟨181,mk [(3,.p (.lst (List.map Br ([(Bx.mk 3 ⟨#[78,97,116]⟩ 0 (.mk 2 0 ⟨#[]⟩ ([(CB.mk 0 [])]) []:Tm) (.mk 0 0 ⟨#[]⟩ [] []:Tm) 0 ([(Dk.mk ⟨#[122,101,114,111]⟩ (.mk 3 0 ⟨#[78,97,116]⟩ [] []:Tm)),(Dk.mk ⟨#[115,117,99,99]⟩ (.mk 6 0 ⟨#[]⟩ [] [DO CO,LD (DO CO)]:Tm))]) (Nv.mk 0 (.mk 3 0 ⟨#[78,97,116]⟩ [] []:Tm) ([(.mk 3 0 ⟨#[78,97,116]⟩ [] []:Tm),(.mk 3 0 ⟨#[78,97,116]⟩ [] []:Tm)])) [])])))),(4,.p (.lst (Ay ([(.mk 3 0 ⟨#[78,97,116]⟩ [] []:Tm),(.mk 3 0 ⟨#[78,97,116]⟩ [] []:Tm)])))),(5,.ptr b5 0),(6,.ptr b6 0),(7,.p (.lst (List.map Bp [true,false]))),(8,.p (.lst (Ay [I6,BH]))),(9,.p (I 0))],[.box b6 [.p (I 0),.p (I 0),.p (.str ⟨#[]⟩),.p (.nils),.p (.nils)],.box b5 [.p (I 0),.p (I 1),.p (.str ⟨#[]⟩),.p (.nils),.p (.nils)],.box b2 [.p (I 2),.p (I 0),.p (.str ⟨#[]⟩),.p (.lst (List.map Bz ([(CB.mk 0 [])]))),.p (.nils)],.box b1 [.p (I 3),.p (I 0),.p (.str ⟨#[78,97,116]⟩),.p (.lst (List.map Bz [])),.p (.lst (Ay []))]],[]⟩) (DL ⟨O,O,O,O,O,O,O,Aj⟩ (List.Sublist.refl _)) ?_;refine By (fun k=>false) Eg (BU As 4 [] O (B8 O (fun _=>BT FC bD O O O O O) Aj (B8 O (fun _=>BA O O (Ya [true,false] [true,false] O Ag) O) Aj (BU As 4 [] O (B8 O (fun _=>BB BP O (A8 _)) Aj (BU As 3 [] O (Fh 76 O (fun g=>?_) (fun g=>?_))))))))
 ·(try simp only[sd,se] at g);refine B1 As 9 [] O ?_;refine Ao O (fun c=>?_) (fun c=>by cases c);exact Am (D6 (M:=⟨181,mk [],[.box b6 [.p (I 0),.p (I 0),.p (.str ⟨#[]⟩),.p (.nils),.p (.nils)],.box b5 [.p (I 0),.p (I 1),.p (.str ⟨#[]⟩),.p (.nils),.p (.nils)],.box b2 [.p (I 2),.p (I 0),.p (.str ⟨#[]⟩),.p (.lst (List.map Bz ([(CB.mk 0 [])]))),.p (.nils)],.box b1 [.p (I 3),.p (I 0),.p (.str ⟨#[78,97,116]⟩),.p (.lst (List.map Bz [])),.p (.lst (Ay []))]],[]⟩) (DL Aj (List.Sublist.refl _)) (Au (Ak As 1 [] O (Av (absurd g Ag)))))
 (try simp only[sd,se] at g);refine B8 O (fun _=>CF O) Aj (B8 O (fun _=>A3 BP O O Ah (Be O) (A7 _)) Aj (BU As 2 [0] O (B8 O (fun _=>BT (cs:=[.p (I 0),.p (I 0),.p (.str ⟨#[]⟩),.p (.lst []),.p (.lst [])]) BP Bj O O Ad O O) Aj (B8 O (fun _=>BA O O (HG ⟨#[115,117,99,99]⟩ Qo) O) Aj (B8 O (fun _=>BA O O (PT I6 (.mk 4 0 ⟨#[]⟩ [] [(.mk 3 0 ⟨#[115,117,99,99]⟩ [] []:Tm),Qo]) Ag O) O) Aj (B1 As 2 [] O ?_))))));refine Ao O (fun c=>by cases c) (fun c=>?_);refine Aq (Am ?_);refine D6 (M:=⟨181,mk [(3,.p (.lst (List.map Br ([(Bx.mk 3 ⟨#[78,97,116]⟩ 0 (.mk 2 0 ⟨#[]⟩ ([(CB.mk 0 [])]) []:Tm) (.mk 0 0 ⟨#[]⟩ [] []:Tm) 0 ([(Dk.mk ⟨#[122,101,114,111]⟩ (.mk 3 0 ⟨#[78,97,116]⟩ [] []:Tm)),(Dk.mk ⟨#[115,117,99,99]⟩ (.mk 6 0 ⟨#[]⟩ [] [DO CO,LD (DO CO)]:Tm))]) (Nv.mk 0 (.mk 3 0 ⟨#[78,97,116]⟩ [] []:Tm) ([(.mk 3 0 ⟨#[78,97,116]⟩ [] []:Tm),(.mk 3 0 ⟨#[78,97,116]⟩ [] []:Tm)])) [])])))),(4,.p (.lst (Ay ([(.mk 3 0 ⟨#[78,97,116]⟩ [] []:Tm),(.mk 3 0 ⟨#[78,97,116]⟩ [] []:Tm)])))),(5,.ptr b5 0),(6,.ptr b6 0),(7,.p (.lst (List.map Bp [true,false]))),(8,.p (.lst (Ay [I6,BH])))],[.box b6 [.p (I 0),.p (I 0),.p (.str ⟨#[]⟩),.p (.nils),.p (.nils)],.box b5 [.p (I 0),.p (I 1),.p (.str ⟨#[]⟩),.p (.nils),.p (.nils)],.box b2 [.p (I 2),.p (I 0),.p (.str ⟨#[]⟩),.p (.lst (List.map Bz ([(CB.mk 0 [])]))),.p (.nils)],.box b1 [.p (I 3),.p (I 0),.p (.str ⟨#[78,97,116]⟩),.p (.lst (List.map Bz [])),.p (.lst (Ay []))]],[]⟩) (DL ⟨O,O,O,O,O,O,Aj⟩ (List.Sublist.refl _)) ?_;refine Au (Ap As 3 [1] O (Al O (BT (cs:=[.p (I 0),.p (I 1),.p (.str ⟨#[]⟩),.p (.lst []),.p (.lst [])]) BP Bj O O Ad O O) (Al O (Ba (i:=0) Bf O O O) (Al O (BT (cs:=[.p (I 0),.p (I 0),.p (.str ⟨#[]⟩),.p (.lst []),.p (.lst [])]) BP Bj O O Ad O O) ?_))))
 refine Al O (BA O O (dN ([(Bx.mk 3 ⟨#[78,97,116]⟩ 0 (.mk 2 0 ⟨#[]⟩ ([(CB.mk 0 [])]) []:Tm) (.mk 0 0 ⟨#[]⟩ [] []:Tm) 0 ([(Dk.mk ⟨#[122,101,114,111]⟩ (.mk 3 0 ⟨#[78,97,116]⟩ [] []:Tm)),(Dk.mk ⟨#[115,117,99,99]⟩ (.mk 6 0 ⟨#[]⟩ [] [DO CO,LD (DO CO)]:Tm))]) (Nv.mk 0 (.mk 3 0 ⟨#[78,97,116]⟩ [] []:Tm) ([(.mk 3 0 ⟨#[78,97,116]⟩ [] []:Tm),(.mk 3 0 ⟨#[78,97,116]⟩ [] []:Tm)])) [])]) ([(.mk 3 0 ⟨#[78,97,116]⟩ [] []:Tm),(.mk 3 0 ⟨#[78,97,116]⟩ [] []:Tm)]) ([(.mk 0 1 ⟨#[]⟩ [] []:Tm)]) ([(.mk 0 0 ⟨#[]⟩ [] []:Tm)]) ⟨O,O,O,O⟩) O) (Ak As 7 [] O (Am (Am ?_)));refine D6 (M:=⟨181,mk [(3,.p (.lst (List.map Br ([(Bx.mk 3 ⟨#[78,97,116]⟩ 0 (.mk 2 0 ⟨#[]⟩ ([(CB.mk 0 [])]) []:Tm) (.mk 0 0 ⟨#[]⟩ [] []:Tm) 0 ([(Dk.mk ⟨#[122,101,114,111]⟩ (.mk 3 0 ⟨#[78,97,116]⟩ [] []:Tm)),(Dk.mk ⟨#[115,117,99,99]⟩ (.mk 6 0 ⟨#[]⟩ [] [DO CO,LD (DO CO)]:Tm))]) (Nv.mk 0 (.mk 3 0 ⟨#[78,97,116]⟩ [] []:Tm) ([(.mk 3 0 ⟨#[78,97,116]⟩ [] []:Tm),(.mk 3 0 ⟨#[78,97,116]⟩ [] []:Tm)])) [])])))),(4,.p (.lst (Ay ([(.mk 3 0 ⟨#[78,97,116]⟩ [] []:Tm),(.mk 3 0 ⟨#[78,97,116]⟩ [] []:Tm)])))),(5,.ptr b5 0),(6,.ptr b6 0),(7,.p (.lst (List.map Bp [true,false]))),(8,.p (.lst (Ay [I6,BH]))),(10,.p (.lst (List.map Bp [false,true]))),(11,.p (.lst (Ay [BH,GD]))),(12,.p (I 0))],[.box b6 [.p (I 0),.p (I 0),.p (.str ⟨#[]⟩),.p (.nils),.p (.nils)],.box b5 [.p (I 0),.p (I 1),.p (.str ⟨#[]⟩),.p (.nils),.p (.nils)],.box b2 [.p (I 2),.p (I 0),.p (.str ⟨#[]⟩),.p (.lst (List.map Bz ([(CB.mk 0 [])]))),.p (.nils)],.box b1 [.p (I 3),.p (I 0),.p (.str ⟨#[78,97,116]⟩),.p (.lst (List.map Bz [])),.p (.lst (Ay []))]],[]⟩) (DL ⟨O,O,O,O,O,O,O,O,O,Aj⟩ (List.Sublist.refl _)) ?_;refine By (fun k=>false) Eg (BU As 4 [] O (B8 O (fun _=>BT FC bD O O O O O) Aj (B8 O (fun _=>BA O O (Ya [false,true] [false,true] O Ag) O) Aj (BU As 4 [] O (B8 O (fun _=>BB BP O (A8 _)) Aj (BU As 3 [] O (Fh 110 O (fun g1=>?_) (fun g1=>?_))))))))
 ·(try simp only[sd,se] at g1);refine B1 As 7 [] O ?_;refine Ao O (fun c1=>?_) (fun c1=>by cases c1);exact Am (D6 (M:=⟨181,mk [],[.box b6 [.p (I 0),.p (I 0),.p (.str ⟨#[]⟩),.p (.nils),.p (.nils)],.box b5 [.p (I 0),.p (I 1),.p (.str ⟨#[]⟩),.p (.nils),.p (.nils)],.box b2 [.p (I 2),.p (I 0),.p (.str ⟨#[]⟩),.p (.lst (List.map Bz ([(CB.mk 0 [])]))),.p (.nils)],.box b1 [.p (I 3),.p (I 0),.p (.str ⟨#[78,97,116]⟩),.p (.lst (List.map Bz [])),.p (.lst (Ay []))]],[]⟩) (DL Aj (List.Sublist.refl _)) (Au (Ak As 1 [] O (Av (absurd g1 Ag)))))
 (try simp only[sd,se] at g1);refine B8 O (fun _=>CF O) Aj (B8 O (fun _=>A3 BP O O Ah (Be O) (A7 _)) Aj (BU As 2 [1] O (B8 O (fun _=>Jy O O (PT GD (.mk 0 1 ⟨#[]⟩ [] []:Tm) Ag O) (aw (we O) (aw (Fl O) (HX)))) Aj (B1 As 2 [] O ?_))));refine Ao O (fun c1=>by cases c1) (fun c1=>?_);refine Aq (Am ?_);refine D6 (M:=⟨181,mk [(3,.p (.lst (List.map Br ([(Bx.mk 3 ⟨#[78,97,116]⟩ 0 (.mk 2 0 ⟨#[]⟩ ([(CB.mk 0 [])]) []:Tm) (.mk 0 0 ⟨#[]⟩ [] []:Tm) 0 ([(Dk.mk ⟨#[122,101,114,111]⟩ (.mk 3 0 ⟨#[78,97,116]⟩ [] []:Tm)),(Dk.mk ⟨#[115,117,99,99]⟩ (.mk 6 0 ⟨#[]⟩ [] [DO CO,LD (DO CO)]:Tm))]) (Nv.mk 0 (.mk 3 0 ⟨#[78,97,116]⟩ [] []:Tm) ([(.mk 3 0 ⟨#[78,97,116]⟩ [] []:Tm),(.mk 3 0 ⟨#[78,97,116]⟩ [] []:Tm)])) [])])))),(4,.p (.lst (Ay ([(.mk 3 0 ⟨#[78,97,116]⟩ [] []:Tm),(.mk 3 0 ⟨#[78,97,116]⟩ [] []:Tm)])))),(5,.ptr b5 0),(6,.ptr b6 0),(7,.p (.lst (List.map Bp [true,false]))),(8,.p (.lst (Ay [I6,BH])))],[.box b6 [.p (I 0),.p (I 0),.p (.str ⟨#[]⟩),.p (.nils),.p (.nils)],.box b5 [.p (I 0),.p (I 1),.p (.str ⟨#[]⟩),.p (.nils),.p (.nils)],.box b2 [.p (I 2),.p (I 0),.p (.str ⟨#[]⟩),.p (.lst (List.map Bz ([(CB.mk 0 [])]))),.p (.nils)],.box b1 [.p (I 3),.p (I 0),.p (.str ⟨#[78,97,116]⟩),.p (.lst (List.map Bz [])),.p (.lst (Ay []))]],[]⟩) (DL ⟨O,O,O,O,O,O,Aj⟩ (List.Sublist.refl _)) ?_;refine By (fun k=>false) Eg (BU As 2 [] O (BG O (fun _=>BA O O (Ux ⟨#[122,101,114,111]⟩) O) Aj (BG O (fun _=>Bi (rows:=Ay ([(.mk 3 0 ⟨#[122,101,114,111]⟩ [] [])])) BP Bj O O O O (CP (CD _)) (Gk _)) Aj (BU As 1 [1] O (BG O (fun _=>BT (cs:=[.p (I 0),.p (I 1),.p (.str ⟨#[]⟩),.p (.lst []),.p (.lst [])]) BP Bj O O Ad O O) Aj (BG O (fun _=>BA O O (HG ⟨#[115,117,99,99]⟩ GD) O) Aj (BG O (fun _=>Bi (rows:=Ay ([(.mk 4 0 ⟨#[]⟩ [] [(.mk 3 0 ⟨#[115,117,99,99]⟩ [] []:Tm),GD])])) BP Bj O O O O (CP (CD _)) (Gk _)) Aj ?_)))))))
 refine BG O (fun _=>BA O O (bL ([(Bx.mk 3 ⟨#[78,97,116]⟩ 0 (.mk 2 0 ⟨#[]⟩ ([(CB.mk 0 [])]) []:Tm) (.mk 0 0 ⟨#[]⟩ [] []:Tm) 0 ([(Dk.mk ⟨#[122,101,114,111]⟩ (.mk 3 0 ⟨#[78,97,116]⟩ [] []:Tm)),(Dk.mk ⟨#[115,117,99,99]⟩ (.mk 6 0 ⟨#[]⟩ [] [DO CO,LD (DO CO)]:Tm))]) (Nv.mk 0 (.mk 3 0 ⟨#[78,97,116]⟩ [] []:Tm) ([(.mk 3 0 ⟨#[78,97,116]⟩ [] []:Tm),(.mk 3 0 ⟨#[78,97,116]⟩ [] []:Tm)])) [])]) ([(.mk 3 0 ⟨#[78,97,116]⟩ [] []:Tm),(.mk 3 0 ⟨#[78,97,116]⟩ [] []:Tm)]) ([(.mk 3 0 ⟨#[122,101,114,111]⟩ [] [])]) ([(.mk 4 0 ⟨#[]⟩ [] [(.mk 3 0 ⟨#[115,117,99,99]⟩ [] []:Tm),GD])]) ⟨O,O,O,O⟩) O) Aj (B1 As 7 [] O (Am ?_));refine D6 (M:=⟨181,mk [(3,.p (.lst (List.map Br ([(Bx.mk 3 ⟨#[78,97,116]⟩ 0 (.mk 2 0 ⟨#[]⟩ ([(CB.mk 0 [])]) []:Tm) (.mk 0 0 ⟨#[]⟩ [] []:Tm) 0 ([(Dk.mk ⟨#[122,101,114,111]⟩ (.mk 3 0 ⟨#[78,97,116]⟩ [] []:Tm)),(Dk.mk ⟨#[115,117,99,99]⟩ (.mk 6 0 ⟨#[]⟩ [] [DO CO,LD (DO CO)]:Tm))]) (Nv.mk 0 (.mk 3 0 ⟨#[78,97,116]⟩ [] []:Tm) ([(.mk 3 0 ⟨#[78,97,116]⟩ [] []:Tm),(.mk 3 0 ⟨#[78,97,116]⟩ [] []:Tm)])) [])])))),(4,.p (.lst (Ay ([(.mk 3 0 ⟨#[78,97,116]⟩ [] []:Tm),(.mk 3 0 ⟨#[78,97,116]⟩ [] []:Tm)])))),(5,.ptr b5 0),(6,.ptr b6 0),(7,.p (.lst (List.map Bp [true,false]))),(8,.p (.lst (Ay [I6,BH]))),(15,.p (I 20))],[.box b6 [.p (I 0),.p (I 0),.p (.str ⟨#[]⟩),.p (.nils),.p (.nils)],.box b5 [.p (I 0),.p (I 1),.p (.str ⟨#[]⟩),.p (.nils),.p (.nils)],.box b2 [.p (I 2),.p (I 0),.p (.str ⟨#[]⟩),.p (.lst (List.map Bz ([(CB.mk 0 [])]))),.p (.nils)],.box b1 [.p (I 3),.p (I 0),.p (.str ⟨#[78,97,116]⟩),.p (.lst (List.map Bz [])),.p (.lst (Ay []))]],[]⟩) (DL ⟨O,O,O,O,O,O,O,Aj⟩ (List.Sublist.refl _)) ?_;refine By (fun k=>false) Eg (BU As 3 [1] O (BG O (fun _=>BT (cs:=[.p (I 0),.p (I 1),.p (.str ⟨#[]⟩),.p (.lst []),.p (.lst [])]) BP Bj O O Ad O O) Aj (BU As 1 [1] O (BG O (fun _=>BT (cs:=[.p (I 0),.p (I 1),.p (.str ⟨#[]⟩),.p (.lst []),.p (.lst [])]) BP Bj O O Ad O O) Aj (BG O (fun _=>BA O O (HG ⟨#[115,117,99,99]⟩ GD) O) Aj (BG O (fun _=>Bi (rows:=Ay ([(.mk 4 0 ⟨#[]⟩ [] [(.mk 3 0 ⟨#[115,117,99,99]⟩ [] []:Tm),GD])])) BP Bj O O O O (CP (CD _)) (Gk _)) Aj ?_))))))
 refine BG O (fun _=>BA O O (eR ([(Bx.mk 3 ⟨#[78,97,116]⟩ 0 (.mk 2 0 ⟨#[]⟩ ([(CB.mk 0 [])]) []:Tm) (.mk 0 0 ⟨#[]⟩ [] []:Tm) 0 ([(Dk.mk ⟨#[122,101,114,111]⟩ (.mk 3 0 ⟨#[78,97,116]⟩ [] []:Tm)),(Dk.mk ⟨#[115,117,99,99]⟩ (.mk 6 0 ⟨#[]⟩ [] [DO CO,LD (DO CO)]:Tm))]) (Nv.mk 0 (.mk 3 0 ⟨#[78,97,116]⟩ [] []:Tm) ([(.mk 3 0 ⟨#[78,97,116]⟩ [] []:Tm),(.mk 3 0 ⟨#[78,97,116]⟩ [] []:Tm)])) [])]) ([(.mk 3 0 ⟨#[78,97,116]⟩ [] []:Tm),(.mk 3 0 ⟨#[78,97,116]⟩ [] []:Tm)]) ([(.mk 0 1 ⟨#[]⟩ [] []:Tm)]) ([(.mk 4 0 ⟨#[]⟩ [] [(.mk 3 0 ⟨#[115,117,99,99]⟩ [] []:Tm),GD])]) ⟨O,O,O,O⟩) O) Aj (B1 As 7 [] O (Am ?_));refine D6 (M:=⟨181,mk [(3,.p (.lst (List.map Br ([(Bx.mk 3 ⟨#[78,97,116]⟩ 0 (.mk 2 0 ⟨#[]⟩ ([(CB.mk 0 [])]) []:Tm) (.mk 0 0 ⟨#[]⟩ [] []:Tm) 0 ([(Dk.mk ⟨#[122,101,114,111]⟩ (.mk 3 0 ⟨#[78,97,116]⟩ [] []:Tm)),(Dk.mk ⟨#[115,117,99,99]⟩ (.mk 6 0 ⟨#[]⟩ [] [DO CO,LD (DO CO)]:Tm))]) (Nv.mk 0 (.mk 3 0 ⟨#[78,97,116]⟩ [] []:Tm) ([(.mk 3 0 ⟨#[78,97,116]⟩ [] []:Tm),(.mk 3 0 ⟨#[78,97,116]⟩ [] []:Tm)])) [])])))),(4,.p (.lst (Ay ([(.mk 3 0 ⟨#[78,97,116]⟩ [] []:Tm),(.mk 3 0 ⟨#[78,97,116]⟩ [] []:Tm)])))),(5,.ptr b5 0),(6,.ptr b6 0),(7,.p (.lst (List.map Bp [true,false]))),(8,.p (.lst (Ay [I6,BH]))),(15,.p (I 20)),(18,.p (I 20))],[.box b6 [.p (I 0),.p (I 0),.p (.str ⟨#[]⟩),.p (.nils),.p (.nils)],.box b5 [.p (I 0),.p (I 1),.p (.str ⟨#[]⟩),.p (.nils),.p (.nils)],.box b2 [.p (I 2),.p (I 0),.p (.str ⟨#[]⟩),.p (.lst (List.map Bz ([(CB.mk 0 [])]))),.p (.nils)],.box b1 [.p (I 3),.p (I 0),.p (.str ⟨#[78,97,116]⟩),.p (.lst (List.map Bz [])),.p (.lst (Ay []))]],[]⟩) (DL ⟨O,O,O,O,O,O,O,O,Aj⟩ (List.Sublist.refl _)) ?_;refine Au (Ap As 3 [1] O (Al O (BT (cs:=[.p (I 0),.p (I 1),.p (.str ⟨#[]⟩),.p (.lst []),.p (.lst [])]) BP Bj O O Ad O O) (Al O (B5 (cs:=[.p (I 9),.p (I 0),.p (.str ⟨#[]⟩),.p (.nils),.p (.lst (Ay ([(.mk 0 1 ⟨#[]⟩ [] []:Tm)])))]) D0 Bj Ad) (Al O (BT (cs:=[.p (I 9),.p (I 0),.p (.str ⟨#[]⟩),.p (.lst []),.p (.lst (Ay ([(.mk 0 1 ⟨#[]⟩ [] []:Tm)])))]) BP Bj O O Ad O O) (Al O (Ba (i:=1) Bf O O O) (Al O (BT (cs:=[.p (I 0),.p (I 1),.p (.str ⟨#[]⟩),.p (.lst []),.p (.lst [])]) BP Bj O O Ad O O) ?_))))))
 refine Al O (BA O O (aq ([(Bx.mk 3 ⟨#[78,97,116]⟩ 0 (.mk 2 0 ⟨#[]⟩ ([(CB.mk 0 [])]) []:Tm) (.mk 0 0 ⟨#[]⟩ [] []:Tm) 0 ([(Dk.mk ⟨#[122,101,114,111]⟩ (.mk 3 0 ⟨#[78,97,116]⟩ [] []:Tm)),(Dk.mk ⟨#[115,117,99,99]⟩ (.mk 6 0 ⟨#[]⟩ [] [DO CO,LD (DO CO)]:Tm))]) (Nv.mk 0 (.mk 3 0 ⟨#[78,97,116]⟩ [] []:Tm) ([(.mk 3 0 ⟨#[78,97,116]⟩ [] []:Tm),(.mk 3 0 ⟨#[78,97,116]⟩ [] []:Tm)])) [])]) ([(.mk 3 0 ⟨#[78,97,116]⟩ [] []:Tm),(.mk 3 0 ⟨#[78,97,116]⟩ [] []:Tm)]) ([(.mk 9 0 ⟨#[]⟩ [] ([(.mk 0 1 ⟨#[]⟩ [] []:Tm)]):Tm)]) ([(.mk 0 1 ⟨#[]⟩ [] []:Tm)]) ⟨O,O,O,O⟩) O) (Ak As 7 [] O (Am ?_));refine D6 (M:=⟨181,mk [(5,.ptr b5 0),(6,.ptr b6 0),(7,.p (.lst (List.map Bp [true,false]))),(8,.p (.lst (Ay [I6,BH]))),(15,.p (I 20)),(18,.p (I 20)),(21,.p (I 19))],[.box b6 [.p (I 0),.p (I 0),.p (.str ⟨#[]⟩),.p (.nils),.p (.nils)],.box b5 [.p (I 0),.p (I 1),.p (.str ⟨#[]⟩),.p (.nils),.p (.nils)],.box b2 [.p (I 2),.p (I 0),.p (.str ⟨#[]⟩),.p (.lst (List.map Bz ([(CB.mk 0 [])]))),.p (.nils)],.box b1 [.p (I 3),.p (I 0),.p (.str ⟨#[78,97,116]⟩),.p (.lst (List.map Bz [])),.p (.lst (Ay []))]],[]⟩) (DL ⟨O,O,O,O,O,O,O,Aj⟩ (List.Sublist.refl _)) (By (fun k=>false) Eg (BU As 14 [1] O (B8 O (fun _=>BT (cs:=[.p (I 0),.p (I 1),.p (.str ⟨#[]⟩),.p (.lst []),.p (.lst [])]) BP Bj O O Ad O O) Aj (B8 O (fun _=>BA O O (HG ⟨#[115,117,99,99]⟩ GD) O) Aj ?_))));refine B8 O (fun _=>BA O O (aX [true,false] [I6,BH] (.mk 4 0 ⟨#[]⟩ [] [(.mk 3 0 ⟨#[115,117,99,99]⟩ [] []:Tm),GD]) ⟨O,O,O⟩) O) Aj (BU As 1 [0] O (B8 O (fun _=>BT (cs:=[.p (I 0),.p (I 0),.p (.str ⟨#[]⟩),.p (.lst []),.p (.lst [])]) BP Bj O O Ad O O) Aj (B8 O (fun _=>BA O O (HG ⟨#[115,117,99,99]⟩ Qo) O) Aj (B8 O (fun _=>Bi (rows:=Ay ([(.mk 4 0 ⟨#[]⟩ [] [(.mk 3 0 ⟨#[115,117,99,99]⟩ [] []:Tm),Qo])])) BP Bj O O O O (CP (CD _)) (Gk _)) Aj (B8 O (fun _=>BA O O (HG ⟨#[115,117,99,99]⟩ I6) O) Aj (B8 O (fun _=>BA O O (PT Oq (.mk 4 0 ⟨#[]⟩ [] [(.mk 3 0 ⟨#[115,117,99,99]⟩ [] []:Tm),I6]) Ag O) O) Aj (B1 As 2 [] O (Av (⟨O,_,_,⟨_,_,O,O,O⟩,(List.nil_sublist _),?_⟩)))))))))
 all_goals exact⟨rfl,rfl⟩
end Go.Proofs.YtifphifongokcaaGreat
