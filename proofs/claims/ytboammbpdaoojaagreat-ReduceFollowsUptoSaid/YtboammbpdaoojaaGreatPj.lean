/- Part of the proofs: an abstract program logic, plain models and contracts of functions. -/
import Derived.Test.YtboammbpdaoojaaGreatPi
import Derived.Test.YtboammbpdaoojaaGreatPd
import Derived.Test.YtboammbpdaoojaaGreatPb
set_option linter.unusedVariables false
set_option linter.unusedSimpArgs false
set_option maxRecDepth 100000
namespace Go.Proofs.YtboammbpdaoojaaGreat
open Go.Abs Go.Eu
theorem P7:∀(t:Tm) (vars params metas levels:Int),(Nd t)→(size t<1000000)→Gp Tryz.prog 55 [.agg ((BP t).map .p),.p (I vars),.p (I params),.p (I metas),.p (I levels)] (fun v=>∃e:Int,v= .p (I e)∧(e=0→wf (max vars 0) metas 0 t∧Cw t)):=by
 intro t vars params metas levels h1 h2;refine A5 Tryz.func55 O vP (n:=28) O O (Aw (BF O (BN O) fun b5=>Ar Ay 1 [] O (As (Aw (Ax Ay 2 [0] O (Aq O (FI O O) (Ax Ay 3 [] O (Du O O (CI O O (kj _ t 0 (max (vars:Int) (0:Int)) params metas levels (Nat.le_refl _) h1 An Ab) (.inl O)) ?_))))))));rintro _ ⟨e,rfl,he⟩;refine Ar Ay 1 [] O (Au Ay 2 [] O (Av O (fun c=>?_) (fun c=>?_)))
 ·simp only[sd,se] at c;refine Au Ay 2 [] O (A1 (⟨O,_,[],De O,List.nil_sublist _,⟨⟨_,O,?_⟩,O⟩⟩));exact fun h=>absurd h Ak
 simp only[sd,se] at c;refine A2 (As (Aw (Aq O (BU (i:=0) BZ O O Ag) (Aq O (BC O O (ou _ t (Nat.le_refl _) An) O) (Ar Ay 1 [] O (Av O (fun c1=>?_) (fun c1=>?_)))))))
 ·simp only[sd,se] at c1;refine Au Ay 1 [] O (A1 (⟨O,_,[],De O,List.nil_sublist _,⟨⟨_,O,?_⟩,O⟩⟩));exact fun h=>absurd h Am
 simp only[sd,se] at c1;refine A2 (As (Aw (Aq O (BU (i:=0) BZ O O Ag) (Aq O (BC O O (kR _ t (Nat.le_refl _) An) O) (Ar Ay 1 [] O (Av O (fun c2=>?_) (fun c2=>?_)))))))
 ·simp only[sd,se] at c2;refine Au Ay 1 [] O (A1 (⟨O,_,[],De O,List.nil_sublist _,⟨⟨_,O,?_⟩,O⟩⟩));exact fun h=>absurd h Am
 simp only[sd,se] at c2;refine A2 (Au Ay 1 [] O (A1 (⟨O,_,[],De O,List.nil_sublist _,⟨⟨_,O,?_⟩,O⟩⟩)));exact fun _=>he An
theorem Tt:∀(ds:List B5) (d:B5),(Hg ds)→(Ox d)→Gp Tryz.prog 135 [.p (.lst (List.map Bi ds)),.agg ((Bi d).map .p)] (cP):=by
 intro ds d h1 h2;have hn:=Nr d;have hcl:=h2.cl;have hfl:=h2.fl;refine A5 Tryz.func135 O sV (n:=44) O O (Aw (BF O (BN O) fun b3=>Ar Ay 1 [] O (Aw (Aq O (BU (i:=0) FZ O O Ad) (Aq O (BC O O (Mn d h2.cl h2.fl h2.nm) O) (Ar Ay 1 [] O (As (Au Ay 1 [] O (A9 (Bc (α:=Nat) (fun i=>⟨44,mk [(0,.p (.lst (List.map Bi ds))),(5,.p (.lst (List.map Gr (C4 d)))),(6,.p (I (i:Int)))],[],[]⟩) (fun i=>(C4 d).length - i) (fun i=>i≤(C4 d).length) 0 AQ ?_ ?_))))))))))
 ·exact BS ⟨we O,we O,we O,Ap⟩ (leH (is:=[]) O (C2))
 rintro i hC
 try simp only at hC
 have hi:=hC;refine As (Aw (Ax Ay 2 [] O (Aq O (BJ Gq O (List.length_map _)) (Ar Ay 1 [] O (Av O (fun c=>?_) (fun c=>?_))))))
 ·simp only[sd,se] at c;refine A2 (As (A9 (As (Aw (Ax Ay 2 [] O ?_)))));obtain⟨x,hx⟩:=A6 (l:=C4 d) (i:=i) An;refine Aq O (A4 Gq O O An (O2 hx) (O)) (Aq O (FB MI O) (Du O O (CI O O (gL x (eK h2 hx)) (.inl O)) ?_));rintro _ ⟨q,rfl⟩;refine Ar Ay 1 [] O (Av O (fun c1=>?_) (fun c1=>?_))
  ·simp only[sd,se] at c1;refine Au Ay 1 [] O (A1 (⟨O,_,_,⟨_,_,O,O,O⟩,(List.nil_sublist _),?_⟩))
   all_goals exact⟨⟨_,rfl⟩,rfl⟩
  simp only[sd,se] at c1;refine A2 (Aw (Ax Ay 3 [] O (Aq O (A4 Gq O O An (O2 hx) (O)) (Aq O (FB MI O) (Aq O (BC O O (MP ds x h1) O) (Ax Ay 3 [] O (BF O (A7 IK O) fun b7=>Ar Ay 2 [0,1] O (As (BT [0,5,6] 43 Kp ?_ ?_)))))))))
  ·refine Bt (fun k=>false) Dn (BR Ay 3 [] O (D6 34 O (fun g=>?_) (fun g=>?_)))
   ·simp only[sd,se] at g;exact Bk Ay 9 [] O (⟨O,O,AM,⟨_,O⟩,⟨O,O,O,Ap⟩⟩)
   simp only[sd,se] at g;exact BR Ay 2 [] O (Ce O (fun _=>CZ (lo:=0) (hi:=i) Gq O (CG (Kt _)) O ⟨_,O⟩ (Nat.zero_le _) AR (ZH (f:=Gr) (C4 d) i)) Ap (BR Ay 2 [] O (Ce O (fun _=>A4 Gq O O An (O2 hx) (O)) Ap (Ce O (fun _=>FB MI O) Ap (Ce O (fun _=>BC O O (WY ((C4 d).take i) x Ai) O) Ap (Bk Ay 1 [] O (⟨O,O,AM,⟨_,O⟩,⟨O,O,O,Ap⟩⟩)))))))
  rintro _ ⟨q1,rfl⟩;refine Av O (fun c2=>?_) (fun c2=>?_)
  ·refine Au Ay 1 [] O (A1 (⟨O,_,_,⟨_,_,O,O,O⟩,(List.nil_sublist _),?_⟩))
   all_goals exact⟨⟨_,rfl⟩,rfl⟩
  refine A2 (A3 (Ar Ay 3 [] O ?_));refine⟨(i+1),AW,by omega,BS ⟨we rfl,we rfl,we rfl,trivial⟩ (leH (is:=[]) rfl (C2))⟩
 simp only[sd,se] at c;refine Be (Au Ay 1 [] O (A1 (⟨O,_,_,⟨_,_,O,O,O⟩,(List.nil_sublist _),?_⟩)))
 all_goals exact⟨⟨_,rfl⟩,rfl⟩
theorem Tj:∀(n:Nat) (s:QL) (t:Tm),(size t≤n)→(Nd t)→(Hg s.env)→(s.own.length<9000000)→(Ox s.d)→Gp Tryz.prog 172 [.agg ((GH s).map .p),.agg ((BP t).map .p)] (cP):=by
 intro n
 induction n with
 | zero=>intro s t h;cases t;simp[size] at h
 | succ n ih =>
  intro s t h1 h2 h3 h4 h5;have h3l:=h3.len;obtain⟨tk,ti,tn,tl,ts⟩:=t;have hk:=h2.2.2.2.2.1;have hkl:=h2.2.2.2.1;simp only[DY] at hkl;simp only[size] at h1;refine A5 Tryz.func172 O s9 (n:=59) O O (Aw (BF O (BN O) fun b2=>BF O (BN O) fun b3=>Ar Ay 1 [] O (As (Au Ay 3 [0] O (BT [2,3] 12 (fun _=>True) ?_ ?_)))))
  ·refine Av O (fun c=>?_) (fun c=>?_)
   ·simp only[sd,se] at c;refine Aw (Aq O (Az OI O O) (Aq O (A0 (i:=1) j9 O O (KF _)) (Ax Ay 2 [0] O (Aq O (BC O O (MP s.env tn h3) O) (Ax Ay 3 [] O (BF O (A7 IK O) fun b5=>Ar Ay 2 [0,1] O (As (Au Ay 2 [] O (Av O (fun c1=>?_) (fun c1=>?_))))))))))
    ·simp only[sd,se] at c1;refine As (Aw (Aq O (Az OI O O) (Aq O (A0 (i:=2) X3 O O (YR _)) (Ax Ay 2 [1] O (Aq O (BC O O (WY s.own tn h4) O) (Ar Ay 1 [] O (Av O (fun c2=>?_) (fun c2=>?_))))))))
     ·simp only[sd,se] at c2;refine Au Ay 1 [] O (A1 (⟨O,_,_,⟨_,_,O,O,O⟩,(List.nil_sublist _),?_⟩))
      all_goals exact⟨⟨_,rfl⟩,rfl⟩
     simp only[sd,se] at c2;refine A2 (A3 (Aq O (Az OI O O) (Aq O (Bw (i:=2) FZ O O (Ur _) (Cp _)) (Aq O (Az OI O O) (Aq O (A0 (i:=2) j9 O O (KF _)) (Aq O (BJ IF O (List.length_map _)) (Ax Ay 2 [1] O (Aq O (BC O O (UZ s.d (s.env.length:Nat) tn h5.cl h5.fl) O) (Ar Ay 1 [0,1] O (Aw (Ax Ay 2 [1] O (Aq O (BJ EV O (List.length_map _)) (Aq O (Az GO O O) (Aq O (A0 (i:=0) DM O O (HX _)) (Ar Ay 1 [] O (Av O (fun c3=>?_) (fun c3=>?_)))))))))))))))))
     ·simp only[sd,se] at c3;refine Au Ay 1 [] O (A1 (⟨O,_,_,⟨_,_,O,O,O⟩,(List.nil_sublist _),?_⟩))
      all_goals exact⟨⟨_,rfl⟩,rfl⟩
     simp only[sd,se] at c3;exact A2 (⟨O,O,(B8 (is:=[1,2]) O),Ap,⟨O,O,Ap⟩⟩)
    simp only[sd,se] at c1;refine A2 (Aw (Ax Ay 2 [1] O (Aq O (BJ EV O (List.length_map _)) (Aq O (Az GO O O) (Aq O (A0 (i:=0) DM O O (HX _)) (Ar Ay 1 [] O (Av O (fun c2=>?_) (fun c2=>?_))))))))
    ·simp only[sd,se] at c2;refine Au Ay 1 [] O (A1 (⟨O,_,_,⟨_,_,O,O,O⟩,(List.nil_sublist _),?_⟩))
     all_goals exact⟨⟨_,rfl⟩,rfl⟩
    simp only[sd,se] at c2;exact A2 (⟨O,O,(B8 (is:=[1,2]) O),Ap,⟨O,O,Ap⟩⟩)
   simp only[sd,se] at c;exact A2 (⟨O,O,(List.Sublist.refl _),Ap,⟨O,O,Ap⟩⟩)
  intro _ _;refine As (Au Ay 1 [] O (A9 (Bc (α:=Nat) (fun i=>⟨59,mk [(2,.ptr b2 0),(3,.ptr b3 0),(7,.p (I (i:Int)))],[.box b3 [.p (I tk),.p (I ti),.p (.str tn),.p (.lst (List.map By tl)),.p (.lst (BE ts))],.box b2 ((GH s).map .p)],[]⟩) (fun i=>ts.length - i) (fun i=>i≤ts.length) 0 AQ ?_ ?_)))
  ·exact BS ⟨we O,we O,we O,Ap⟩ (leH (is:=[0,1]) O (wl (oe O) (wl (oe O) (C2))))
  rintro i hC
  try simp only at hC
  have hi:=hC;refine As (Aw (Ax Ay 3 [0] O (Aq O (BJ Bf O (BQ _)) (Ar Ay 1 [] O (Av O (fun c=>?_) (fun c=>?_))))))
  ·simp only[sd,se] at c;refine A2 (As (A9 (As (Bt (fun k=>Nat.beq k 6) Dn (BR Ay 4 [1,0] O ?_)))));obtain⟨x,hx⟩:=A6 (l:=ts) (i:=i) An;refine BG O (fun _=>A4 Bf O O An (Bd hx) (BD _)) Ap (BG O (fun _=>BM BZ O (BD _)) Ap (LO [] O O (CI O O (ih s x (by have:=Cb hx;omega) (DX hk hx) h3 h4 h5) (.inl O)) Aj (⟨_,0,O⟩) AB ?_));rintro _ ⟨e,rfl⟩;refine⟨Ap,?_⟩;refine Bk Ay 1 [] O (Au Ay 2 [] O (Av O (fun c1=>?_) (fun c1=>?_)))
   ·simp only[sd,se] at c1;refine Au Ay 2 [] O (A1 (⟨O,_,_,⟨_,_,O,O,O⟩,(List.nil_sublist _),?_⟩))
    all_goals exact⟨⟨_,rfl⟩,rfl⟩
   simp only[sd,se] at c1;refine A2 (A3 (Ar Ay 3 [] O ?_));refine⟨(i+1),AW,by omega,BS ⟨we rfl,we rfl,we rfl,trivial⟩ (leH (is:=[0,1]) rfl (wl (oe rfl) (wl (oe rfl) (C2))))⟩
  simp only[sd,se] at c;refine Be (Au Ay 1 [] O (A1 (⟨O,_,_,⟨_,_,O,O,O⟩,(List.nil_sublist _),?_⟩)))
  all_goals exact⟨⟨_,rfl⟩,rfl⟩
theorem ZJ:∀(d:B5),(Ox d)→Gp Tryz.prog 134 [.agg ((Bi d).map .p)] (fun v=>∃ee:Int,v= .p (I ee)∧(ee=0→WM d)):=by
 intro d h1;have hfl:=h1.fl;have hcl:=h1.cl;have hrl:=h1.rl;refine A5 Tryz.func134 O sN (n:=96) O O (Aw (BF O (BN O) fun b1=>Ar Ay 1 [] O (As (As (BT [1] 16 (fun y=>y= .p (.bool (((decide ((d.params:Int)<(0:Int)))||(decide ((d.params:Int) > (8:Int))))||(decide ((d.fixed:Int)<(0:Int)))))) ?_ ?_)))))
 ·refine A3 (Aq O (Az C5 O O) (Aq O (A0 (i:=0) DM O O (Cn _)) (Ax Ay 2 [] O (BO 7 O (fun g=>?_) (fun g=>?_)))))
  ·simp only[sd,se] at g;exact Ar Ay 9 [] O (⟨O,O,AM,AI,⟨O,Ap⟩⟩)
  simp only[sd,se] at g;refine BB O (Az C5 O O) (BB O (A0 (i:=0) DM O O (Cn _)) (Ax Ay 3 [] O (BO 12 O (fun g1=>?_) (fun g1=>?_))))
  ·simp only[sd,se] at g1;exact Ar Ay 4 [] O (⟨O,O,AM,AI,⟨O,Ap⟩⟩)
  simp only[sd,se] at g1;exact BB O (Az C5 O O) (BB O (A0 (i:=0) DM O O (Cr _)) (Ar Ay 2 [] O (⟨O,O,AM,AI,⟨O,Ap⟩⟩)))
 rintro _ rfl;refine Av O (fun c=>?_) (fun c=>?_)
 ·simp only[sd,se] at c;refine Au Ay 1 [] O (A1 (⟨O,_,_,⟨_,_,O,O,O⟩,(List.nil_sublist _),?_⟩))
  all_goals exact⟨⟨_,rfl,fun h=>absurd h Am⟩,rfl⟩
 simp only[sd,se] at c;have hf0:0≤d.fixed:=by omega
 refine A2 (As (As (BT [1] 37 Kp ?_ ?_)))
 ·refine A3 (Aq O (Az C5 O O) (Aq O (A0 (i:=0) H4 O O (CC _)) (Aq O (BJ Hc O (List.length_map _)) (Ax Ay 2 [] O (BO 21 O (fun g=>?_) (fun g=>?_))))))
  ·simp only[sd,se] at g;exact Ar Ay 16 [] O (⟨O,O,AM,⟨_,O⟩,⟨O,Ap⟩⟩)
  simp only[sd,se] at g;refine BB O (Az C5 O O) (BB O (A0 (i:=0) DM O O (Dz _)) (Ax Ay 2 [] O (BO 25 O (fun g1=>?_) (fun g1=>?_))))
  ·simp only[sd,se] at g1;refine BB O (Az C5 O O) (BB O (A0 (i:=0) Hq O O (CJ _)) (BB O (BJ HV O (List.length_map _)) (Ax Ay 2 [] O (BO 30 O (fun g2=>?_) (fun g2=>?_)))))
   ·simp only[sd,se] at g2;exact Ar Ay 7 [] O (⟨O,O,AM,⟨_,O⟩,⟨O,Ap⟩⟩)
   simp only[sd,se] at g2;exact BB O (Az C5 O O) (BB O (A0 (i:=0) Hq O O (CJ _)) (BB O (BJ HV O (List.length_map _)) (Ar Ay 4 [] O (⟨O,O,AM,⟨_,O⟩,⟨O,Ap⟩⟩))))
  simp only[sd,se] at g1;exact Ar Ay 12 [] O (⟨O,O,AM,⟨_,O⟩,⟨O,Ap⟩⟩)
 rintro _ ⟨q,rfl⟩;refine Av O (fun c1=>?_) (fun c1=>?_)
 ·refine Au Ay 1 [] O (A1 (⟨O,_,_,⟨_,_,O,O,O⟩,(List.nil_sublist _),?_⟩))
  all_goals exact⟨⟨_,rfl,fun h=>absurd h Am⟩,rfl⟩
 refine A2 (As (Au Ay 1 [] O (A9 ?_)));refine Bc (α:=Nat) (fun i=>⟨96,mk [(1,.ptr b1 0),(3,.p (I (i:Int)))],[.box b1 ((Bi d).map .p)],[]⟩) (fun i=>d.funs.length - i) (fun i=>i≤d.funs.length∧(∀j,j<i→∀x,d.funs[j]?=some x→1≤x.arity∧x.arity≤16)) 0 (⟨by omega,fun j h=>by omega⟩) ?_ ?_
 ·exact BS ⟨we O,we O,Ap⟩ (leH (is:=[0]) O (wl (oe O) (C2)))
 rintro i hC
 try simp only at hC
 obtain⟨hi,hC⟩:=hC;refine As (Aw (Ax Ay 2 [] O (Aq O (A0 (i:=0) Hq O O (CJ _)) (Aq O (BJ HV O (List.length_map _)) (Ar Ay 1 [] O (Av O (fun c2=>?_) (fun c2=>?_)))))))
 ·simp only[sd,se] at c2;obtain⟨x,hx⟩:=A6 (l:=d.funs) (i:=i) An;refine A2 (As (A9 (As (BT [1,3] 60 (fun y=>∃q:Bool,y= .p (.bool q)∧(q=false→1≤x.arity∧x.arity≤16)) ?_ ?_))))
  ·refine A3 (Aq O (Az C5 O O) (Aq O (A0 (i:=0) Hq O O (CJ _)) (Br O (Aq O (A4 HV O O An (EZ hx) (DZ _)) (Aq O (B1 HE O O) (Aq O (DB DM O (CU _)) (Ax Ay 2 [] O (BO 52 O (fun g=>?_) (fun g=>?_)))))))))
   ·simp only[sd,se] at g;exact Ar Ay 8 [] O (⟨O,O,AM,(by refine⟨_,rfl,fun h=>?_⟩;first | (exact absurd h Am) | (simp only[decide_eq_false_iff_not] at h;omega) | omega),⟨O,O,Ap⟩⟩)
   simp only[sd,se] at g;exact BB O (Az C5 O O) (BB O (A0 (i:=0) Hq O O (CJ _)) (BB O (Ba O) (BB O (A4 HV O O An (EZ hx) (DZ _)) (BB O (B1 HE O O) (BB O (DB DM O (CU _)) (Ar Ay 2 [] O (⟨O,O,AM,(by refine⟨_,rfl,fun h=>?_⟩;first | (exact absurd h Am) | (simp only[decide_eq_false_iff_not] at h;omega) | omega),⟨O,O,Ap⟩⟩)))))))
  rintro _ ⟨q,rfl,hq⟩;refine Av O (fun c3=>?_) (fun c3=>?_)
  ·refine Au Ay 1 [] O (A1 (⟨O,_,_,⟨_,_,O,O,O⟩,(List.nil_sublist _),?_⟩))
   all_goals exact⟨⟨_,rfl,fun h=>absurd h Am⟩,rfl⟩
  have hq3:=hq (by simpa using c3);refine A2 (A3 (Ar Ay 3 [] O (⟨(i+1),AW,⟨by omega,Cx (p:=fun _ (x:Hp)=>1≤x.arity∧x.arity≤16) hC hx hq3⟩,BS ⟨we rfl,we rfl,trivial⟩ (leH (is:=[0]) rfl (wl (oe rfl) (C2)))⟩)))
 simp only[sd,se] at c2;refine Be (As (As (BT [] 95 (fun y=>∃q:Bool,y= .p (.bool q)∧(q=false→d.kind=3→d.fixed≤1000000)) ?_ ?_)))
 ·refine A3 (Aq O (Az C5 O O) (Aq O (A0 (i:=0) DM O O (Dz _)) (Ax Ay 2 [] O (BO 64 O (fun g=>?_) (fun g=>?_)))))
  ·simp only[sd,se] at g;refine Ax Ay 2 [] O (BB O (A0 (i:=0) DM O O (Da _)) (BB O (Az C5 O O) (BB O (A0 (i:=0) DM O O (Cn _)) (Ax Ay 2 [] O (BO 71 O (fun g1=>?_) (fun g1=>?_))))))
   ·simp only[sd,se] at g1;refine Ax Ay 2 [] O (BB O (A0 (i:=0) DM O O (Da _)) (BB O (Az C5 O O) (BB O (A0 (i:=0) DM O O (Cn _)) (BB O (EA O O) (Ax Ay 3 [] O (BO 80 O (fun g2=>?_) (fun g2=>?_)))))))
    ·simp only[sd,se] at g2;exact Ar Ay 15 [] O (⟨O,O,AM,(by refine⟨_,rfl,fun h h3=>?_⟩;first | (exact absurd h Am) | omega | exact hq (by simpa using h)),Ap⟩)
    simp only[sd,se] at g2;refine Ax Ay 2 [] O (BB O (A0 (i:=0) Gn O O (Cj _)) (BB O (BJ Bf O (BQ _)) (BB O (Az C5 O O) (BB O (A0 (i:=0) H4 O O (CC _)) (BB O (BJ Hc O (List.length_map _)) (Ax Ay 3 [] O (BO 90 O (fun g3=>?_) (fun g3=>?_))))))))
    ·simp only[sd,se] at g3;exact Ar Ay 5 [] O (⟨O,O,AM,(by refine⟨_,rfl,fun h h3=>?_⟩;first | (exact absurd h Am) | omega | exact hq (by simpa using h)),Ap⟩)
    simp only[sd,se] at g3;refine BB O (BU (i:=0) FZ O O Ad) (IN O O O O (CI O O (Ty d h1) (.inl O)) ?_);rintro _ ⟨q1,rfl,hq⟩;exact Ar Ay 3 [] O (⟨O,O,AM,(by refine⟨_,rfl,fun h h3=>?_⟩;first | (exact absurd h Am) | omega | exact hq (by simpa using h)),Ap⟩)
   simp only[sd,se] at g1;refine Ax Ay 11 [] O (BB O (A0 (i:=0) Gn O O (Cj _)) (BB O (BJ Bf O (BQ _)) (BB O (Az C5 O O) (BB O (A0 (i:=0) H4 O O (CC _)) (BB O (BJ Hc O (List.length_map _)) (Ax Ay 3 [] O (BO 90 O (fun g2=>?_) (fun g2=>?_))))))))
   ·simp only[sd,se] at g2;exact Ar Ay 5 [] O (⟨O,O,AM,(by refine⟨_,rfl,fun h h3=>?_⟩;first | (exact absurd h Am) | omega | exact hq (by simpa using h)),Ap⟩)
   simp only[sd,se] at g2;refine BB O (BU (i:=0) FZ O O Ad) (IN O O O O (CI O O (Ty d h1) (.inl O)) ?_);rintro _ ⟨q1,rfl,hq⟩;exact Ar Ay 3 [] O (⟨O,O,AM,(by refine⟨_,rfl,fun h h3=>?_⟩;first | (exact absurd h Am) | omega | exact hq (by simpa using h)),Ap⟩)
  simp only[sd,se] at g;exact Ar Ay 31 [] O (⟨O,O,AM,(by refine⟨_,rfl,fun h h3=>?_⟩;first | (exact absurd h Am) | omega | exact hq (by simpa using h)),Ap⟩)
 rintro _ ⟨q,rfl,hq⟩;refine Av O (fun c3=>?_) (fun c3=>?_)
 ·refine Au Ay 1 [] O (A1 (⟨O,_,_,⟨_,_,O,O,O⟩,(List.nil_sublist _),?_⟩))
  all_goals exact⟨⟨_,rfl,fun h=>absurd h Am⟩,rfl⟩
 have hq4:=hq (by simpa using c3);refine A2 (Au Ay 1 [] O (A1 (⟨O,_,_,⟨_,_,O,O,O⟩,(List.nil_sublist _),?_⟩)))
 all_goals exact⟨⟨_,rfl,fun _=>⟨hf0,HW An hC,hq4⟩⟩,rfl⟩
theorem HG:∀(s:QL) (t:Tm) (vs ps:Int),(We t)→(Hg s.env)→(s.own.length<9000000)→(Ox s.d)→(vs≤549755813888)→Gp Tryz.prog 151 [.agg ((GH s).map .p),.agg ((BP t).map .p),.p (I vs),.p (I ps)] (fun v=>∃ee:Int,v= .p (I ee)∧(ee=0→okB t=true∧pj vs t)):=by
 intro s t vs ps h1 h2 h3 h4 h5;refine A5 Tryz.func151 O rL (n:=20) O O (Aw (BF O (BN O) fun b4=>BF O (BN O) fun b5=>Ar Ay 1 [] O (As (Aw (Ax Ay 3 [0] O (Du O O (CI O O (P7 t vs ps 0 0 h1.nd h1.sz) (.inl O)) ?_))))));rintro _ ⟨e,rfl,he⟩;refine Ar Ay 1 [] O (Au Ay 2 [] O (Av O (fun c=>?_) (fun c=>?_)))
 ·simp only[sd,se] at c;refine Au Ay 2 [] O (A1 (⟨O,_,_,⟨_,_,O,O,O⟩,(List.nil_sublist _),?_⟩))
  all_goals exact⟨⟨_,rfl,fun h=>absurd h Ak⟩,rfl⟩
 simp only[sd,se] at c;refine A2 (Aw (Ax Ay 2 [1,0] O (Du O O (CI O O (Tj (size t) s t (Nat.le_refl _) h1.nd h2 h3 h4) (.inl O)) ?_)));rintro _ ⟨e1,rfl⟩;refine Ar Ay 1 [] O (A1 (⟨O,_,_,⟨_,_,O,O,O⟩,(List.nil_sublist _),?_⟩))
 all_goals exact⟨⟨_,rfl,fun _=>⟨jV h1.nd h1.sz h5 (he An),_,(he An).1⟩⟩,rfl⟩
theorem WC:∀(n:Nat) (a b:ES),(Ls a≤n)→(Hu a)→Gp Tryz.prog 173 [.agg ((Cz a).map .p),.agg ((Cz b).map .p)] (fun v=>∃bb:Bool,v= .p (.bool bb)∧(bb=true→Od a.body b.body=true∧a.branches.length=b.branches.length)):=by
 intro n
 induction n with
 | zero=>intro a b h;have:=QI a;omega
 | succ n ih =>
  intro a b h1 h2;have hal:=h2.bl;refine A5 Tryz.func173 O rW (n:=74) O O (Aw (BF O (BN O) fun b2=>BF O (BN O) fun b3=>Ar Ay 1 [] O (As (As (BT [2,3] 36 (fun y=>∃q:Bool,y= .p (.bool q)∧(q=false→a.branches.length=b.branches.length∧Od a.body b.body=true)) ?_ ?_)))))
  ·refine A3 (Aq O (Az FG O O) (Aq O (A0 (i:=1) DM O O (Gc _)) (Aq O (Az FG O O) (Aq O (A0 (i:=0) DM O O (Gc _)) (Ax Ay 2 [] O (BO 13 O (fun g=>?_) (fun g=>?_)))))))
   ·simp only[sd,se] at g;exact Ar Ay 23 [] O (⟨O,O,AM,(by refine⟨_,rfl,fun h=>?_⟩;first | (exact absurd h Am) | (simp_all;done) | (simp_all;omega)),⟨O,O,Ap⟩⟩)
   simp only[sd,se] at g;refine BB O (Az FG O O) (BB O (A0 (i:=1) DM O O (DE _)) (BB O (Az FG O O) (BB O (A0 (i:=0) DM O O (DE _)) (Ax Ay 3 [] O (BO 20 O (fun g1=>?_) (fun g1=>?_))))))
   ·simp only[sd,se] at g1;exact Ar Ay 16 [] O (⟨O,O,AM,(by refine⟨_,rfl,fun h=>?_⟩;first | (exact absurd h Am) | (simp_all;done) | (simp_all;omega)),⟨O,O,Ap⟩⟩)
   simp only[sd,se] at g1;refine BB O (Az FG O O) (BB O (Bw (i:=1) BZ O O (E2 _) (BD _)) (BB O (Az FG O O) (BB O (Bw (i:=0) BZ O O (E2 _) (BD _)) (BB O (BC O O (Pn _ a.body b.body (Nat.le_refl _) h2.body.nd) O) (Ax Ay 3 [] O (BO 28 O (fun g2=>?_) (fun g2=>?_)))))))
   ·simp only[sd,se] at g2;exact Ar Ay 8 [] O (⟨O,O,AM,(by refine⟨_,rfl,fun h=>?_⟩;first | (exact absurd h Am) | (simp_all;done) | (simp_all;omega)),⟨O,O,Ap⟩⟩)
   simp only[sd,se] at g2;exact BB O (Az FG O O) (BB O (A0 (i:=1) Kh O O (CH _)) (BB O (BJ Jt O (F6 _)) (BB O (Az FG O O) (BB O (A0 (i:=0) Kh O O (CH _)) (BB O (BJ Jt O (F6 _)) (Ar Ay 2 [] O (⟨O,O,AM,(by refine⟨_,rfl,fun h=>?_⟩;first | (exact absurd h Am) | (simp_all;done) | (simp_all;omega)),⟨O,O,Ap⟩⟩)))))))
  rintro _ ⟨q,rfl,hq⟩;refine Av O (fun c=>?_) (fun c=>?_)
  ·refine Au Ay 1 [] O (A1 (⟨O,_,_,⟨_,_,O,O,O⟩,(List.nil_sublist _),?_⟩))
   all_goals exact⟨⟨_,rfl,fun h=>absurd h Am⟩,rfl⟩
  obtain⟨hqa,hqb⟩:=hq (by simpa using c);refine A2 (As (Au Ay 1 [] O (A9 (Bc (α:=Nat) (fun i=>⟨74,mk [(2,.ptr b2 0),(3,.ptr b3 0),(5,.p (I (i:Int)))],[.box b3 ((Cz b).map .p),.box b2 ((Cz a).map .p)],[]⟩) (fun i=>a.branches.length - i) (fun i=>i≤a.branches.length) 0 AQ ?_ ?_))))
  ·exact BS ⟨we O,we O,we O,Ap⟩ (leH (is:=[0,1]) O (wl (oe O) (wl (oe O) (C2))))
  rintro i hC
  try simp only at hC
  have hi:=hC;refine As (Aw (Ax Ay 2 [] O (Aq O (A0 (i:=1) Kh O O (CH _)) (Aq O (BJ Jt O (F6 _)) (Ar Ay 1 [] O (Av O (fun c1=>?_) (fun c1=>?_)))))))
  ·simp only[sd,se] at c1;obtain⟨x,hx⟩:=A6 (l:=a.branches) (i:=i) An;obtain⟨x1,hx1⟩:=A6 (l:=b.branches) (i:=i) An;refine A2 (As (A9 (As (ld [.val (.ptr b2 (0+7)),.val (.p (.lst (Lr a.branches))),.val (.p (I (i:Int))),.val (.ref (Gy x)),.val (.agg ((Gy x).map .p)),.val (.ptr b3 (0+7)),.val (.p (.lst (Lr b.branches))),.val (.p (I (i:Int))),.val (.ref (Gy x1)),.val (.agg ((Gy x1).map .p)),.new [.p (.str ⟨#[]⟩),.p (.bool false),.p (I 0),.p (I 0),.p (I 0),.p (.str ⟨#[]⟩),.p (.nils),.p (.nils),.p (I 0),.p (.nils)],.new [.p (.str ⟨#[]⟩),.p (.bool false),.p (I 0),.p (I 0),.p (I 0),.p (.str ⟨#[]⟩),.p (.nils),.p (.nils),.p (I 0),.p (.nils)]] [.p .any,.p .any] [5,6,7,8,9] Dn O Aj Aj Aj (C6 O (fun Bs=>Az FG O O) (C6 O (fun Bs=>A0 (i:=Bs.length+1) Kh O (CX O) (CH _)) (C6 O (fun Bs=>Ba O) ?_)))))));refine C6 O (fun Bs=>A4 Jt O O An (FQ hx) (DL _)) (C6 O (fun Bs=>BM UB O (DL _)) (C6 O (fun Bs=>Az FG O O) (C6 O (fun Bs=>A0 (i:=Bs.length+0) Kh O (CX O) (CH _)) (C6 O (fun Bs=>Ba O) (C6 O (fun Bs=>A4 Jt O O An (FQ hx1) (DL _)) (C6 O (fun Bs=>BM UB O (DL _)) (TM O (fun Bs=>A7 bE O) fun b6=>TM O (fun Bs=>A7 bE O) fun b7=>Hk (bN [.box b6 ((Gy x).map .p),.box b7 [.p (.str ⟨#[]⟩),.p (.bool false),.p (I 0),.p (I 0),.p (I 0),.p (.str ⟨#[]⟩),.p (.nils),.p (.nils),.p (I 0),.p (.nils)]] O (Cc (i:=0) UB O O O (by simp[DL]) (by first | rfl | simp[DL]) (WJ _)) ?_))))))));refine bN [.box b6 ((Gy x).map .p),.box b7 ((Gy x1).map .p)] O (Cc (i:=1) UB O O O (by simp[DL]) (by first | rfl | simp[DL]) (WJ _)) (Jb (As (BT [2,3,5] 73 Kp ?_ ?_)))
   ·refine A3 (Aq O (Az IZ O O) (Aq O (A0 (i:=0) MI O O (Gd _)) (Aq O (Az IZ O O) (Aq O (A0 (i:=1) MI O O (Gd _)) (Aq O (JJ O O) (Br O (BO 59 O (fun g=>?_) (fun g=>?_))))))))
    ·simp only[sd,se] at g;exact Ar Ay 14 [] O (⟨O,O,AM,⟨_,O⟩,⟨O,O,O,Ap⟩⟩)
    simp only[sd,se] at g;refine BB O (Az IZ O O) (BB O (A0 (i:=0) sE O O (GU _)) (BB O (Az IZ O O) (BB O (A0 (i:=1) sE O O (GU _)) (BB O (Zf wW O O) (Ax Ay 2 [] O (BO 66 O (fun g1=>?_) (fun g1=>?_)))))))
    ·simp only[sd,se] at g1;exact Ar Ay 7 [] O (⟨O,O,AM,⟨_,O⟩,⟨O,O,O,Ap⟩⟩)
    simp only[sd,se] at g1;refine BB O (Az IZ O O) (BB O (Bw (i:=0) Jl O O (Fp _) (Co _)) (BB O (Az IZ O O) (BB O (Bw (i:=1) Jl O O (Fp _) (Co _)) (IN O O O O (CI O O (ih x.tree x1.tree (by have:=TF hx;omega) (Jn h2.bs hx).tr) (.inl O)) ?_))));rintro _ ⟨q1,rfl,hq⟩;exact Ar Ay 2 [] O (⟨O,O,AM,⟨_,O⟩,⟨O,O,O,Ap⟩⟩)
   rintro _ ⟨q1,rfl⟩;refine Av O (fun c2=>?_) (fun c2=>?_)
   ·refine Au Ay 1 [] O (A1 (⟨O,_,_,⟨_,_,O,O,O⟩,(List.nil_sublist _),?_⟩))
    all_goals exact⟨⟨_,rfl,fun h=>absurd h Am⟩,rfl⟩
   refine A2 (A3 (Ar Ay 3 [] O ?_));refine⟨(i+1),AW,by omega,BS ⟨we rfl,we rfl,we rfl,trivial⟩ (leH (is:=[2,3]) rfl (wl (oe rfl) (wl (oe rfl) (C2))))⟩
  simp only[sd,se] at c1;refine Be (Au Ay 1 [] O (A1 (⟨O,_,_,⟨_,_,O,O,O⟩,(List.nil_sublist _),?_⟩)))
  all_goals exact⟨⟨_,rfl,fun _=>⟨hqb,hqa⟩⟩,rfl⟩
theorem ZV:∀(n:Nat) (s:QL) (t:ES) (vs dp:Int),(Ls t≤n)→(Hu t)→(Ju s.env)→(s.own.length<9000000)→(Ox s.d)→(0≤dp∧dp≤200)→(0≤vs∧vs+(201 - dp)*1000000≤549755813888)→Gp Tryz.prog 152 [.agg ((GH s).map .p),.agg ((Cz t).map .p),.p (I vs),.p (I dp)] (fun v=>∃ee:Int,v= .p (I ee)∧(ee=0→EW t∧SF s.env vs t)):=by
 intro n
 induction n with
 | zero=>intro s t vs dp h;have:=QI t;omega
 | succ n ih =>
  intro s t vs dp h1 h2 h3 h4 h5 h6 h7;have htl:=h2.bl;refine A5 Tryz.func152 O sZ (n:=110) O O (Aw (BF O (BN O) fun b4=>BF O (BN O) fun b5=>Ar Ay 1 [] O (As (Au Ay 2 [] O (Av O (fun c=>?_) (fun c=>?_))))))
  ·simp only[sd,se] at c;refine Au Ay 1 [] O (A1 (⟨O,_,_,⟨_,_,O,O,O⟩,(List.nil_sublist _),?_⟩))
   all_goals exact⟨⟨_,rfl,fun h=>absurd h Am⟩,rfl⟩
  simp only[sd,se] at c;refine A2 (As (Aw (Aq O (Az FG O O) (Aq O (A0 (i:=0) DM O O (Gc _)) (Bg O (A9 (Au Ay 2 [] O (Av O (fun c1=>?_) (fun c1=>?_)))))))))
  ·simp only[sd,se] at c1;refine As (As (BT [2,4,5] 28 (fun y=>y= .p (.bool (((t.var:Int) !=(0:Int))||(decide (((t.branches.length:Nat):Int) > (0:Int)))))) ?_ ?_))
   ·refine A3 (Aq O (Az FG O O) (Aq O (A0 (i:=0) DM O O (DE _)) (Ax Ay 2 [] O (BO 23 O (fun g=>?_) (fun g=>?_)))))
    ·simp only[sd,se] at g;exact Ar Ay 5 [] O (⟨O,O,AM,AI,⟨O,O,O,Ap⟩⟩)
    simp only[sd,se] at g;exact BB O (Az FG O O) (BB O (A0 (i:=0) Kh O O (CH _)) (BB O (BJ Jt O (F6 _)) (Ar Ay 2 [] O (⟨O,O,AM,AI,⟨O,O,O,Ap⟩⟩))))
   rintro _ rfl;refine Av O (fun c2=>?_) (fun c2=>?_)
   ·simp only[sd,se] at c2;refine Au Ay 1 [] O (A1 (⟨O,_,_,⟨_,_,O,O,O⟩,(List.nil_sublist _),?_⟩))
    all_goals exact⟨⟨_,rfl,fun h=>absurd h Am⟩,rfl⟩
   simp only[sd,se] at c2;have hb0:t.branches.length=0:=by omega
   refine A2 (Aw (Ax Ay 2 [1] O (Aq O (Bw (i:=0) BZ O O (E2 _) (BD _)) (Ax Ay 3 [] O (Aq O (A0 (i:=1) DM O O (Py _)) (Du O O (CI O O (HG s t.body vs s.d.params h2.body h3.env h4 h5 An) (.inl O)) ?_))))));rintro _ ⟨e,rfl,he⟩;refine Ar Ay 1 [] O (A1 (⟨O,_,_,⟨_,_,O,O,O⟩,(List.nil_sublist _),?_⟩))
   all_goals exact⟨⟨_,rfl,fun h=>⟨SQ (he h).1 (pE hb0),.leaf An (he h).2⟩⟩,rfl⟩
  simp only[sd,se] at c1;refine Au Ay 2 [] O (Av O (fun c2=>?_) (fun c2=>?_))
  ·simp only[sd,se] at c2;refine Aw (Aq O (Az FG O O) (Aq O (Bw (i:=0) BZ O O (E2 _) (BD _)) (Aq O (BC O O (Kk t.body h2.body.nd) O) (Ar Ay 1 [] O (Av O (fun c3=>?_) (fun c3=>?_))))))
   ·simp only[sd,se] at c3;refine Au Ay 1 [] O (A1 (⟨O,_,_,⟨_,_,O,O,O⟩,(List.nil_sublist _),?_⟩))
    all_goals exact⟨⟨_,rfl,fun h=>absurd h Am⟩,rfl⟩
   simp only[sd,se] at c3;have hz0:Od t.body Bh=true:=by simpa using c3
   refine A2 (As (As (BT [2,3,4,5] 51 (fun y=>y= .p (.bool ((decide ((t.var:Int)<(0:Int)))||(decide ((t.var:Int)≥(vs:Int)))))) ?_ ?_)))
   ·refine A3 (Aq O (Az FG O O) (Aq O (A0 (i:=0) DM O O (DE _)) (Ax Ay 2 [] O (BO 46 O (fun g=>?_) (fun g=>?_)))))
    ·simp only[sd,se] at g;exact Ar Ay 5 [] O (⟨O,O,AM,AI,⟨O,O,O,O,Ap⟩⟩)
    simp only[sd,se] at g;exact BB O (Az FG O O) (BB O (A0 (i:=0) DM O O (DE _)) (Ar Ay 3 [] O (⟨O,O,AM,AI,⟨O,O,O,O,Ap⟩⟩)))
   rintro _ rfl;refine Av O (fun c4=>?_) (fun c4=>?_)
   ·simp only[sd,se] at c4;refine Au Ay 1 [] O (A1 (⟨O,_,_,⟨_,_,O,O,O⟩,(List.nil_sublist _),?_⟩))
    all_goals exact⟨⟨_,rfl,fun h=>absurd h Am⟩,rfl⟩
   simp only[sd,se] at c4;refine A2 (As (Aw (Aq O (Az FG O O) (Aq O (A0 (i:=0) Kh O O (CH _)) (Aq O (BJ Jt O (F6 _)) (Ar Ay 1 [] O (Av O (fun c5=>?_) (fun c5=>?_))))))))
   ·simp only[sd,se] at c5;refine Au Ay 1 [] O (A1 (⟨O,_,_,⟨_,_,O,O,O⟩,(List.nil_sublist _),?_⟩))
    all_goals exact⟨⟨_,rfl,fun h=>absurd h Am⟩,rfl⟩
   simp only[sd,se] at c5;refine A2 (As (Au Ay 1 [] O (A9 ?_)));refine Bc (α:=Nat) (fun i=>⟨110,mk [(2,.p (I vs)),(3,.p (I dp)),(4,.ptr b4 0),(5,.ptr b5 0),(9,.p (I (i:Int)))],[.box b5 ((Cz t).map .p),.box b4 ((GH s).map .p)],[]⟩) (fun i=>t.branches.length - i) (fun i=>i≤t.branches.length∧(∀j,j<i→∀x,t.branches[j]?=some x→EW x.tree∧oV s.env vs x)) 0 (⟨by omega,fun j h=>by omega⟩) ?_ ?_
   ·exact BS ⟨we O,we O,we O,we O,we O,Ap⟩ (leH (is:=[0,1]) O (wl (oe O) (wl (oe O) (C2))))
   rintro i hC
   try simp only at hC
   obtain⟨hi,hC⟩:=hC;refine As (Aw (Ax Ay 2 [] O (Aq O (A0 (i:=0) Kh O O (CH _)) (Aq O (BJ Jt O (F6 _)) (Ar Ay 1 [] O (Av O (fun c6=>?_) (fun c6=>?_)))))))
   ·simp only[sd,se] at c6;refine A2 (As (A9 (Aw (Aq O (Az FG O O) (Aq O (A0 (i:=0) Kh O O (CH _)) (Br O ?_))))));obtain⟨x,hx⟩:=A6 (l:=t.branches) (i:=i) An;refine Aq O (A4 Jt O O An (FQ hx) (DL _)) (Aq O (BM UB O (DL _)) (BF O (A7 bE O) fun b10=>Ar Ay 1 [0,1] O (Aw (Aq O (Az OI O O) (Aq O (A0 (i:=2) j9 O O (KF _)) (Aq O (Az IZ O O) (Aq O (A0 (i:=0) MI O O (Gd _)) (Aq O (BC O O (MP s.env x.ctor h3.env) O) (Ax Ay 3 [] O (BF O (A7 IK O) fun b11=>Ar Ay 2 [0,1] O (As (As (BT [2,3,4,5,9,10,11] 82 (fun y=>∃q:Bool,y= .p (.bool q)∧(q=false→(Bb s.env x.ctor).2=0∧(Bb s.env x.ctor).1.kind=4)) ?_ ?_)))))))))))))
    ·refine A3 (Ax Ay 3 [] O (BO 78 O (fun g=>?_) (fun g=>?_)))
     ·simp only[sd,se] at g;refine Ar Ay 4 [] O ?_;exact⟨O,O,AM,(by refine⟨_,rfl,fun h=>?_⟩;first | (exact absurd h Am) | exact⟨by simpa using g,by simpa using h⟩),⟨O,O,O,O,O,O,O,Ap⟩⟩
     simp only[sd,se] at g;refine BB O (Az GO O O) (BB O (A0 (i:=0) DM O O (DV _)) (Ar Ay 2 [] O ?_));exact⟨O,O,AM,(by refine⟨_,rfl,fun h=>?_⟩;first | (exact absurd h Am) | exact⟨by simpa using g,by simpa using h⟩),⟨O,O,O,O,O,O,O,Ap⟩⟩
    rintro _ ⟨q,rfl,hq⟩;refine Av O (fun c7=>?_) (fun c7=>?_)
    ·refine Au Ay 1 [] O (A1 (⟨O,_,_,⟨_,_,O,O,O⟩,(List.nil_sublist _),?_⟩))
     all_goals exact⟨⟨_,rfl,fun h=>absurd h Am⟩,rfl⟩
    obtain⟨hqc,hqd⟩:=hq (by simpa using c7);obtain⟨dd,k1,k2,k3,k4⟩:=Z7 hqc hqd;refine A2 (As (Aw (Aq O (Az IZ O O) (Aq O (A0 (i:=1) sE O O (GU _)) (Bg O (Av O (fun c8=>?_) (fun c8=>?_)))))))
    ·have hab:x.absurd=true:=by simpa using c8
     refine As (Aw (Aq O (Az IZ O O) (Aq O (Bw (i:=1) Jl O O (Fp _) (Co _)) (Aq O (CO FG Wx O) (Du O O (CI O O (Bn.args (WC (Ls x.tree) x.tree (ES.mk 0 (.mk 0 0 ⟨#[]⟩ [] []:Tm) 0 []) (Nat.le_refl _) (Jn h2.bs hx).tr) (aw (we O) (aw (E1 O) (E0)))) (.inl O)) ?_)))));rintro _ ⟨q1,rfl,hq⟩;refine Ar Ay 1 [] O (Av O (fun c9=>?_) (fun c9=>?_))
     ·simp only[sd,se] at c9;refine Au Ay 1 [] O (A1 (⟨O,_,_,⟨_,_,O,O,O⟩,(List.nil_sublist _),?_⟩))
      all_goals exact⟨⟨_,rfl,fun h=>absurd h Am⟩,rfl⟩
     simp only[sd,se] at c9;have hok:EW x.tree∧oV s.env vs x:=⟨Za (hq (by simpa using c9)).1 (hq (by simpa using c9)).2,fun h=>by rw[hab] at h;cases h⟩;refine A2 (Be (A3 (Ar Ay 3 [] O (⟨(i+1),AW,⟨by omega,Cx (p:=fun _ (y:GC)=>EW y.tree∧oV s.env vs y) hC hx hok⟩,BS ⟨we rfl,we rfl,we rfl,we rfl,we rfl,trivial⟩ (leH (is:=[2,3]) rfl (wl (oe rfl) (wl (oe rfl) (C2))))⟩))))
    have hab:x.absurd=false:=by simpa using c8
    refine A2 (As (Bt (fun k=>Nat.beq k 16) Dn (BR Ay 2 [3] O (CV (j:=1) O O O (fun H i hi=>Bw (i:=i) Jl O hi (Fp _) (Co _)) AB Ap (BR Ay 2 [] O (CV (j:=3) O O O (fun H i hi=>A0 (i:=i) j9 O hi (KF _)) AB Ap (BR Ay 1 [] O (CV (j:=0) O O O (fun H i hi=>A0 (i:=i) DM O hi (DW _)) AB Ap ?_))))))));obtain⟨x1,hx1⟩:=A6 (l:=s.env) (i:=(((Bb s.env x.ctor).1).decl:Int).toNat) (by have:=(List.getElem?_eq_some_iff.1 k2).1;omega);refine BG O (fun _=>A4 IF O O An (D8 hx1) (Cp _)) Ap (BR Ay 2 [] O (CV (j:=0) O O O (fun H i hi=>A0 (i:=i) DM O hi (Fm _)) AB Ap ?_));have hfr:=K1 (h3.all _ (List.mem_of_getElem? hx1)).din k3 (by have e:=Option.some.inj (k2.symm.trans hx1);subst e;exact k4) (h3.all _ (List.mem_of_getElem? hx1)).fx.1;refine BG O (fun _=>BC O O (Uu x1 (((Bb s.env x.ctor).1).item) (h3.all _ (List.mem_of_getElem? hx1)).din (h3.all _ (List.mem_of_getElem? hx1)).fx k3 (by have e:=Option.some.inj (k2.symm.trans hx1);subst e;exact k4)) O) Ap (BR Ay 3 [] O (LO [] O O (CI O O (ih s x.tree ((vs:Int)+(C7 x1 (((Bb s.env x.ctor).1).item):Int)) ((dp:Int)+(1:Int)) (by have:=TF hx;omega) (Jn h2.bs hx).tr h3 h4 h5 An An) (.inl O)) Aj (⟨_,1,O,fun h=>absurd h Am⟩) AB ?_));rintro _ ⟨e,rfl,he⟩;refine⟨Ap,?_⟩;refine Bk Ay 1 [] O (Au Ay 2 [] O (Av O (fun c9=>?_) (fun c9=>?_)))
    ·simp only[sd,se] at c9;refine Au Ay 2 [] O (A1 (⟨O,_,_,⟨_,_,O,O,O⟩,(List.nil_sublist _),?_⟩))
     all_goals exact⟨⟨_,rfl,fun h=>absurd h Ak⟩,rfl⟩
    simp only[sd,se] at c9;have hok:EW x.tree∧oV s.env vs x:=pq hqc hqd hx1 (@he An);refine A2 (A3 (Ar Ay 3 [] O (⟨(i+1),AW,⟨by omega,Cx (p:=fun _ (y:GC)=>EW y.tree∧oV s.env vs y) hC hx hok⟩,BS ⟨we rfl,we rfl,we rfl,we rfl,we rfl,trivial⟩ (leH (is:=[2,3]) rfl (wl (oe rfl) (wl (oe rfl) (C2))))⟩)))
   simp only[sd,se] at c6;refine Be (Au Ay 1 [] O (A1 (⟨O,_,_,⟨_,_,O,O,O⟩,(List.nil_sublist _),?_⟩)))
   all_goals exact⟨⟨_,rfl,fun _=>⟨SQ (by rw[IM.1 hz0];exact IY) (fun x hx=>(HW An hC x hx).1),mJ An (HW An hC)⟩⟩,rfl⟩
  simp only[sd,se] at c2;refine Au Ay 1 [] O (A1 (⟨O,_,_,⟨_,_,O,O,O⟩,(List.nil_sublist _),?_⟩))
  all_goals exact⟨⟨_,rfl,fun h=>absurd h Am⟩,rfl⟩
theorem dO:∀(ds:List B5) (d:B5),(Ju ds)→(Ox d)→(WM d)→Gp Tryz.prog 136 [.p (.lst (List.map Bi ds)),.agg ((Bi d).map .p)] (fun v=>∃ee:Int,v= .p (I ee)∧(ee=0→Pp ds d)):=by
 intro ds d h1 h2 h3;have hn:=Nr d;have hcl:=h2.cl;have hfl:=h2.fl;have hrl:=h2.rl;refine A5 Tryz.func136 O rY (n:=161) O O (Aw (BF O (BN O) fun b3=>Ar Ay 1 [] O (Aw (Ax Ay 2 [0] O (Aq O (gW OI nq (tW O O O)) (BF O (A7 nq O) fun b5=>Ar Ay 1 [0,1] O (As (Aw (Aq O (Az C5 O O) (Aq O (A0 (i:=1) DM O O (Dz _)) (Ar Ay 1 [] O (BT [3,5] 17 (fun _=>True) ?_ ?_))))))))))))
 ·refine Av O (fun c=>?_) (fun c=>?_)
  ·simp only[sd,se] at c;refine Aw (Ax Ay 2 [0] O (Aq O (Bw (i:=1) BZ O O (E3 _) (BD _)) (Aq O (Az C5 O O) (Aq O (A0 (i:=1) DM O O (Cn _)) (Du O O (CI O O (HG (QL.mk ds [] d) d.type 0 d.params h2.ty h1.env Ao h2 An) (.inl O)) ?_)))));rintro _ ⟨e,rfl,he⟩;refine Ar Ay 1 [] O (Au Ay 2 [] O (Av O (fun c1=>?_) (fun c1=>?_)))
   ·simp only[sd,se] at c1;refine Au Ay 2 [] O (A1 (⟨O,_,_,⟨_,_,O,O,O⟩,(List.nil_sublist _),?_⟩))
    all_goals exact⟨⟨_,rfl,fun h=>absurd h Ak⟩,rfl⟩
   simp only[sd,se] at c1;exact A2 (⟨O,O,(List.Sublist.refl _),Ap,⟨O,O,Ap⟩⟩)
  simp only[sd,se] at c;exact A2 (⟨O,O,(List.Sublist.refl _),Ap,⟨O,O,Ap⟩⟩)
 intro _ _;refine As (Aw (Aq O (Az C5 O O) (Aq O (A0 (i:=1) DM O O (Dz _)) (Bg O (A9 (As (Au Ay 2 [] O (BT [3,5,33] 34 (fun y=>y= .p (.bool (decide (d.kind=1∨d.kind=2)))) ?_ ?_))))))))
 ·refine Av O (fun c=>?_) (fun c=>?_)
  ·simp only[sd,se] at c;exact A2 (⟨O,O,(List.Sublist.refl _),(by refine pB (Bool.eq_iff_iff.2 ?_);simp only[beq_iff_eq,decide_eq_true_eq];omega),⟨O,O,O,Ap⟩⟩)
  simp only[sd,se] at c;exact A3 (Ar Ay 2 [] O (⟨O,O,(List.Sublist.refl _),(by refine pB (Bool.eq_iff_iff.2 ?_);simp only[beq_iff_eq,decide_eq_true_eq];omega),⟨O,O,O,Ap⟩⟩))
 rintro _ rfl;refine Av O (fun c=>?_) (fun c=>?_)
 ·simp only[sd,se] at c;have hk12:d.kind=1∨d.kind=2:=by simpa using c
  refine Aw (Ax Ay 2 [0] O (Aq O (Bw (i:=1) BZ O O (FA _) (BD _)) (Aq O (Az C5 O O) (Aq O (A0 (i:=1) DM O O (Cn _)) (Du O O (CI O O (HG (QL.mk ds [] d) d.value 0 d.params h2.vl h1.env Ao h2 An) (.inl O)) ?_)))));rintro _ ⟨e,rfl,he⟩;refine Ar Ay 1 [] O (A1 (⟨O,_,_,⟨_,_,O,O,O⟩,(List.nil_sublist _),?_⟩))
  all_goals exact⟨⟨_,rfl,fun h=>⟨fun _=>he h,fun _=>by omega,fun _=>by omega⟩⟩,rfl⟩
 simp only[sd,se] at c;have hk12:¬(d.kind=1∨d.kind=2):=by simpa using c
 refine Au Ay 2 [] O (Av O (fun c1=>?_) (fun c1=>?_))
 ·simp only[sd,se] at c1;have hn1:=ck (d:=d) (by simpa using c1);have hk3:=c1;refine Aw (Aq O (Az C5 O O) (Aq O (A0 (i:=1) MI O O (DF _)) (Aq O (Bl Gq lN O O O O O) (Aq O (Az OI O O) (Aq O (Dw (i:=0) (ds:=(GH (QL.mk ds [d.name] d)).map .p) X3 O O O O O O O) (Bg O (As (Au Ay 1 [] O (A9 (Bc (α:=Nat) (fun i=>⟨161,mk [(3,.ptr b3 0),(5,.ptr b5 0),(7,.p (I (i:Int)))],[.box b5 ((GH (QL.mk ds [d.name] d)).map .p),.box b3 ((Bi d).map .p)],[]⟩) (fun i=>d.ctors.length - i) (fun i=>i≤d.ctors.length) 0 AQ ?_ ?_))))))))))
  ·exact BS ⟨we O,we O,we O,Ap⟩ (leH (is:=[0,1]) O (wl (oe O) (wl (oe O) (C2))))
  rintro i hC
  try simp only at hC
  have hi:=hC;refine As (Aw (Ax Ay 2 [] O (Aq O (A0 (i:=1) H4 O O (CC _)) (Aq O (BJ Hc O (List.length_map _)) (Ar Ay 1 [] O (Av O (fun c2=>?_) (fun c2=>?_)))))))
  ·simp only[sd,se] at c2;refine A2 (As (A9 (As (Bt (fun k=>Nat.beq k 9) Dn (BR Ay 2 [0] O (CV (j:=1) O O O (fun H i hi=>A0 (i:=i) H4 O hi (CC _)) AB Ap (BG O (fun _=>Ba O) Ap ?_)))))));obtain⟨x,hx⟩:=A6 (l:=d.ctors) (i:=i) An;refine BG O (fun _=>A4 Hc O O An (Em hx) (EE _)) Ap (BG O (fun _=>B1 Jh O O) Ap (BG O (fun _=>DP BZ O (Fi _) (BD _)) Ap (BG O (fun _=>Az C5 O O) Ap (CV (j:=1) O O O (fun H i hi=>A0 (i:=i) DM O hi (Cn _)) AB Ap (LO [] O O (CI O O (HG (QL.mk ds [d.name] d) x.type 0 d.params (h2.cs _ (List.mem_of_getElem? hx)).ty h1.env Ao h2 An) (.inl O)) Aj (⟨_,1,O,fun h=>absurd h Am⟩) AB ?_)))));rintro _ ⟨e,rfl,he⟩;refine⟨Ap,?_⟩;refine Bk Ay 1 [] O (Au Ay 2 [] O (Av O (fun c3=>?_) (fun c3=>?_)))
   ·simp only[sd,se] at c3;refine Au Ay 2 [] O (A1 (⟨O,_,_,⟨_,_,O,O,O⟩,(List.nil_sublist _),?_⟩))
    all_goals exact⟨⟨_,rfl,fun h=>absurd h Ak⟩,rfl⟩
   simp only[sd,se] at c3;refine A2 (A3 (Ar Ay 3 [] O ?_));refine⟨(i+1),AW,by omega,BS ⟨we rfl,we rfl,we rfl,trivial⟩ (leH (is:=[0,1]) rfl (wl (oe rfl) (wl (oe rfl) (C2))))⟩
  simp only[sd,se] at c2;refine Be (Aw (Aq O (BU (i:=1) FZ O O Ad) (Aq O (BC O O (Mn d h2.cl h2.fl h2.nm) O) (Ar Ay 1 [] O (Aw (Ax Ay 2 [] O (Aq O (BJ Gq O (List.length_map _)) (Aq O (M1 O O An An) (Aq O (CZ (lo:=0) (hi:=((((C4 d).length:Nat):Int) - (1:Int):Int).toNat) Gq O (CG (Kt _)) O ⟨_,pI An⟩ (Nat.zero_le _) AR (ZH (f:=Gr) (C4 d) (((((C4 d).length:Nat):Int) - (1:Int):Int).toNat))) (Aq O (Az OI O O) (Aq O (Dw (i:=0) (ds:=(GH (QL.mk ds ((C4 d).take (((((C4 d).length:Nat):Int) - (1:Int):Int).toNat)) d)).map .p) X3 O O O O O O O) (Bg O (As (Aw (Ax Ay 3 [0] O (Aq O (Bw (i:=1) BZ O O (E5 _) (BD _)) (Ax Ay 2 [] O ?_)))))))))))))))));refine Aq O (A0 (i:=1) DM O O (Da _)) (Du O O (CI O O (HG (QL.mk ds ((C4 d).take (((((C4 d).length:Nat):Int) - (1:Int):Int).toNat)) d) d.recs.type 0 d.recs.params h2.rt h1.env Ai h2 An) (.inl O)) ?_);rintro _ ⟨e,rfl,he⟩;refine Ar Ay 1 [] O (Au Ay 2 [] O (Av O (fun c3=>?_) (fun c3=>?_)))
  ·simp only[sd,se] at c3;refine Au Ay 2 [] O (A1 (⟨O,_,_,⟨_,_,O,O,O⟩,(List.nil_sublist _),?_⟩))
   all_goals exact⟨⟨_,rfl,fun h=>absurd h Ak⟩,rfl⟩
  simp only[sd,se] at c3;refine A2 (Aw (Ax Ay 2 [] O (Aq O (Dw (i:=0) (ds:=(GH (QL.mk ds (C4 d) d)).map .p) X3 O O O O O O O) (Bg O (Au Ay 1 [] O (A9 ?_))))));refine Bc (α:=Nat) (fun i=>⟨161,mk [(3,.ptr b3 0),(5,.ptr b5 0),(11,.p (I (i:Int)))],[.box b5 ((GH (QL.mk ds (C4 d) d)).map .p),.box b3 ((Bi d).map .p)],[]⟩) (fun i=>d.recs.rules.length - i) (fun i=>i≤d.recs.rules.length∧(∀j,j<i→∀x,d.recs.rules[j]?=some x→okB x=true∧pj 0 x)) 0 (⟨by omega,fun j h=>by omega⟩) ?_ ?_
  ·exact BS ⟨we O,we O,we O,Ap⟩ (leH (is:=[0,1]) O (wl (oe O) (wl (oe O) (C2))))
  rintro i hC1
  try simp only at hC1
  obtain⟨hi,hR⟩:=hC1;refine As (Aw (Ax Ay 3 [] O (Aq O (A0 (i:=1) Gn O O (Cj _)) (Aq O (BJ Bf O (BQ _)) (Ar Ay 1 [] O (Av O (fun c4=>?_) (fun c4=>?_)))))))
  ·simp only[sd,se] at c4;refine A2 (As (A9 (As (Bt (fun k=>Nat.beq k 10) Dn (BR Ay 3 [0] O (CV (j:=1) O O O (fun H i hi=>A0 (i:=i) Gn O hi (Cj _)) AB Ap (BG O (fun _=>Ba O) Ap ?_)))))));obtain⟨x,hx⟩:=A6 (l:=d.recs.rules) (i:=i) An;refine BG O (fun _=>A4 Bf O O An (Bd hx) (BD _)) Ap (BR Ay 3 [] O (CV (j:=1) O O O (fun H i hi=>A0 (i:=i) DM O hi (Da _)) AB Ap (LO [] O O (CI O O (HG (QL.mk ds (C4 d) d) x 0 d.recs.params (h2.rs _ (List.mem_of_getElem? hx)) h1.env (by simp only;omega) h2 An) (.inl O)) Aj (⟨_,1,O,fun h=>absurd h Am⟩) AB ?_)));rintro _ ⟨e1,rfl,he1⟩;refine⟨Ap,?_⟩;refine Bk Ay 1 [] O (Au Ay 2 [] O (Av O (fun c5=>?_) (fun c5=>?_)))
   ·simp only[sd,se] at c5;refine Au Ay 2 [] O (A1 (⟨O,_,_,⟨_,_,O,O,O⟩,(List.nil_sublist _),?_⟩))
    all_goals exact⟨⟨_,rfl,fun h=>absurd h Ak⟩,rfl⟩
   simp only[sd,se] at c5;refine A2 (A3 (Ar Ay 3 [] O (⟨(i+1),AW,⟨by omega,Cx (p:=fun _ (y:Tm)=>okB y=true∧pj 0 y) hR hx (he1 An)⟩,BS ⟨we rfl,we rfl,we rfl,trivial⟩ (leH (is:=[0,1]) rfl (wl (oe rfl) (wl (oe rfl) (C2))))⟩)))
  simp only[sd,se] at c4;refine Be (Au Ay 1 [] O (A1 (⟨O,_,_,⟨_,_,O,O,O⟩,(List.nil_sublist _),?_⟩)))
  all_goals exact⟨⟨_,rfl,fun _=>⟨fun _=>by omega,fun _=>HW An hR,fun _=>by omega⟩⟩,rfl⟩
 simp only[sd,se] at c1;have hk3:=c1;refine Au Ay 2 [] O (Av O (fun c2=>?_) (fun c2=>?_))
 ·simp only[sd,se] at c2;refine As (Au Ay 1 [] O (A9 (Bc (α:=Nat) (fun i=>⟨161,mk [(3,.ptr b3 0),(5,.ptr b5 0),(13,.p (I (i:Int)))],[.box b5 ((GH (QL.mk ds [] d)).map .p),.box b3 ((Bi d).map .p)],[]⟩) (fun i=>d.funs.length - i) (fun i=>i≤d.funs.length) 0 AQ ?_ ?_)))
  ·exact BS ⟨we O,we O,we O,Ap⟩ (leH (is:=[0,1]) O (wl (oe O) (wl (oe O) (C2))))
  rintro i hC
  try simp only at hC
  have hi:=hC;refine As (Aw (Ax Ay 2 [] O (Aq O (A0 (i:=1) Hq O O (CJ _)) (Aq O (BJ HV O (List.length_map _)) (Ar Ay 1 [] O (Av O (fun c3=>?_) (fun c3=>?_)))))))
  ·simp only[sd,se] at c3;refine A2 (As (A9 (As (Bt (fun k=>Nat.beq k 9) Dn (BR Ay 2 [0] O (CV (j:=1) O O O (fun H i hi=>A0 (i:=i) Hq O hi (CJ _)) AB Ap (BG O (fun _=>Ba O) Ap ?_)))))));obtain⟨x,hx⟩:=A6 (l:=d.funs) (i:=i) An;refine BG O (fun _=>A4 HV O O An (EZ hx) (DZ _)) Ap (BG O (fun _=>B1 HE O O) Ap (BG O (fun _=>DP BZ O (JC _) (BD _)) Ap (BG O (fun _=>Az C5 O O) Ap (CV (j:=1) O O O (fun H i hi=>A0 (i:=i) DM O hi (Cn _)) AB Ap (LO [] O O (CI O O (HG (QL.mk ds [] d) x.type 0 d.params (h2.fs _ (List.mem_of_getElem? hx)).ty h1.env Ao h2 An) (.inl O)) Aj (⟨_,1,O,fun h=>absurd h Am⟩) AB ?_)))));rintro _ ⟨e,rfl,he⟩;refine⟨Ap,?_⟩;refine Bk Ay 1 [] O (Au Ay 2 [] O (Av O (fun c4=>?_) (fun c4=>?_)))
   ·simp only[sd,se] at c4;refine Au Ay 2 [] O (A1 (⟨O,_,_,⟨_,_,O,O,O⟩,(List.nil_sublist _),?_⟩))
    all_goals exact⟨⟨_,rfl,fun h=>absurd h Ak⟩,rfl⟩
   simp only[sd,se] at c4;refine A2 (A3 (Ar Ay 3 [] O ?_));refine⟨(i+1),AW,by omega,BS ⟨we rfl,we rfl,we rfl,trivial⟩ (leH (is:=[0,1]) rfl (wl (oe rfl) (wl (oe rfl) (C2))))⟩
  simp only[sd,se] at c3;refine Be (Aw (Aq O (BU (i:=1) FZ O O Ad) (Aq O (BC O O (Mn d h2.cl h2.fl h2.nm) O) (Aq O (Az OI O O) (Aq O (Dw (i:=0) (ds:=(GH (QL.mk ds (C4 d) d)).map .p) X3 O O O O O O O) (Bg O (Au Ay 1 [] O (A9 ?_))))))));refine Bc (α:=Nat) (fun i=>⟨161,mk [(3,.ptr b3 0),(5,.ptr b5 0),(15,.p (I (i:Int)))],[.box b5 ((GH (QL.mk ds (C4 d) d)).map .p),.box b3 ((Bi d).map .p)],[]⟩) (fun i=>d.funs.length - i) (fun i=>i≤d.funs.length∧(∀j,j<i→∀x,d.funs[j]?=some x→EW x.tree∧SF ds x.arity x.tree)) 0 (⟨by omega,fun j h=>by omega⟩) ?_ ?_
  ·exact BS ⟨we O,we O,we O,Ap⟩ (leH (is:=[0,1]) O (wl (oe O) (wl (oe O) (C2))))
  rintro i hC1
  try simp only at hC1
  obtain⟨hi,hT⟩:=hC1;refine As (Aw (Ax Ay 2 [] O (Aq O (A0 (i:=1) Hq O O (CJ _)) (Aq O (BJ HV O (List.length_map _)) (Ar Ay 1 [] O (Av O (fun c4=>?_) (fun c4=>?_)))))))
  ·simp only[sd,se] at c4;refine A2 (As (A9 (As (Bt (fun k=>Nat.beq k 13) Dn (BR Ay 2 [0] O (CV (j:=1) O O O (fun H i hi=>A0 (i:=i) Hq O hi (CJ _)) AB Ap (BG O (fun _=>Ba O) Ap ?_)))))));obtain⟨x,hx⟩:=A6 (l:=d.funs) (i:=i) An;refine BG O (fun _=>A4 HV O O An (EZ hx) (DZ _)) Ap (BG O (fun _=>B1 HE O O) Ap (BG O (fun _=>DP Jl O (D1 _) (Co _)) Ap (BG O (fun _=>Az C5 O O) Ap (CV (j:=1) O O O (fun H i hi=>A0 (i:=i) Hq O hi (CJ _)) AB Ap (BG O (fun _=>Ba O) Ap (BG O (fun _=>A4 HV O O An (EZ hx) (DZ _)) Ap (BG O (fun _=>B1 HE O O) Ap (BG O (fun _=>DB DM O (CU _)) Ap ?_))))))));have hax:=h3.2.1 _ (List.mem_of_getElem? hx);refine LO [] O O (CI O O (ZV (Ls x.tree) (QL.mk ds (C4 d) d) x.tree x.arity 0 (Nat.le_refl _) (h2.fs _ (List.mem_of_getElem? hx)).tr h1 (by simp only;omega) h2 An An) (.inl O)) Aj (⟨_,1,O,fun h=>absurd h Am⟩) AB ?_;rintro _ ⟨e,rfl,he⟩;refine⟨Ap,?_⟩;refine Bk Ay 1 [] O (Au Ay 2 [] O (Av O (fun c5=>?_) (fun c5=>?_)))
   ·simp only[sd,se] at c5;refine Au Ay 2 [] O (A1 (⟨O,_,_,⟨_,_,O,O,O⟩,(List.nil_sublist _),?_⟩))
    all_goals exact⟨⟨_,rfl,fun h=>absurd h Ak⟩,rfl⟩
   simp only[sd,se] at c5;refine A2 (A3 (Ar Ay 3 [] O (⟨(i+1),AW,⟨by omega,Cx (p:=fun _ (y:Hp)=>EW y.tree∧SF ds y.arity y.tree) hT hx (he An)⟩,BS ⟨we rfl,we rfl,we rfl,trivial⟩ (leH (is:=[0,1]) rfl (wl (oe rfl) (wl (oe rfl) (C2))))⟩)))
  simp only[sd,se] at c4;refine Be (Au Ay 1 [] O (A1 (⟨O,_,_,⟨_,_,O,O,O⟩,(List.nil_sublist _),?_⟩)))
  all_goals exact⟨⟨_,rfl,fun _=>⟨fun _=>by omega,fun _=>by omega,fun _=>HW An hT⟩⟩,rfl⟩
 simp only[sd,se] at c2;refine A2 (Au Ay 1 [] O (A1 (⟨O,_,_,⟨_,_,O,O,O⟩,(List.nil_sublist _),?_⟩)))
 all_goals exact⟨⟨_,rfl,fun _=>⟨fun _=>by omega,fun _=>by omega,fun _=>by omega⟩⟩,rfl⟩
theorem iT:∀(ds:List B5) (d:B5),(Ju ds)→(Ox d)→Gp Tryz.prog 102 [.p (.lst (List.map Bi ds)),.agg ((Bi d).map .p)] (fun v=>∃ee:Int,v= .p (I ee)∧(ee=0→DG d∧Pp ds d)):=by
 intro ds d h1 h2;refine A5 Tryz.func102 O tm (n:=32) O O (Aw (BF O (BN O) fun b3=>Ar Ay 1 [] O (As (As (BT [0,3] 14 (fun y=>y= .p (.bool ((decide ((d.kind:Int)<(0:Int)))||(decide ((d.kind:Int) > (4:Int)))))) ?_ ?_)))))
 ·refine A3 (Aq O (Az C5 O O) (Aq O (A0 (i:=0) DM O O (Dz _)) (Ax Ay 2 [] O (BO 10 O (fun g=>?_) (fun g=>?_)))))
  ·simp only[sd,se] at g;exact Ar Ay 4 [] O (⟨O,O,AM,AI,⟨O,O,Ap⟩⟩)
  simp only[sd,se] at g;exact BB O (Az C5 O O) (BB O (A0 (i:=0) DM O O (Dz _)) (Ar Ay 2 [] O (⟨O,O,AM,AI,⟨O,O,Ap⟩⟩)))
 rintro _ rfl;refine Av O (fun c=>?_) (fun c=>?_)
 ·simp only[sd,se] at c;refine Au Ay 1 [] O (A1 (⟨O,_,_,⟨_,_,O,O,O⟩,(List.nil_sublist _),?_⟩))
  all_goals exact⟨⟨_,rfl,fun h=>absurd h Am⟩,rfl⟩
 simp only[sd,se] at c;have hk:0≤d.kind∧d.kind≤4:=by omega
 refine A2 (As (Aw (Aq O (BU (i:=0) FZ O O Ad) (Du O O (CI O O (Zz d h2 hk) (.inl O)) ?_))));rintro _ ⟨q,rfl,hq⟩;refine Ar Ay 1 [] O (Av O (fun c1=>?_) (fun c1=>?_))
 ·simp only[sd,se] at c1;refine Au Ay 1 [] O (A1 (⟨O,_,_,⟨_,_,O,O,O⟩,(List.nil_sublist _),?_⟩))
  all_goals exact⟨⟨_,rfl,fun h=>absurd h Am⟩,rfl⟩
 simp only[sd,se] at c1;have hu:=hq (by simpa using c1);refine A2 (As (Aw (Aq O (BU (i:=0) FZ O O Ad) (Du O O (CI O O (ZJ d h2) (.inl O)) ?_))));rintro _ ⟨e,rfl,he⟩;refine Ar Ay 1 [] O (Au Ay 2 [] O (Av O (fun c2=>?_) (fun c2=>?_)))
 ·simp only[sd,se] at c2;refine Au Ay 2 [] O (A1 (⟨O,_,_,⟨_,_,O,O,O⟩,(List.nil_sublist _),?_⟩))
  all_goals exact⟨⟨_,rfl,fun h=>absurd h Ak⟩,rfl⟩
 simp only[sd,se] at c2;have hcn:=he An;refine A2 (As (Aw (Ax Ay 2 [0] O (Du O O (CI O O (Tt ds d h1.env h2) (.inl O)) ?_))));rintro _ ⟨e1,rfl⟩;refine Ar Ay 1 [] O (Au Ay 2 [] O (Av O (fun c3=>?_) (fun c3=>?_)))
 ·simp only[sd,se] at c3;refine Au Ay 2 [] O (A1 (⟨O,_,_,⟨_,_,O,O,O⟩,(List.nil_sublist _),?_⟩))
  all_goals exact⟨⟨_,rfl,fun h=>absurd h Ak⟩,rfl⟩
 simp only[sd,se] at c3;refine A2 (Aw (Ax Ay 2 [0] O (Du O O (CI O O (dO ds d h1 h2 hcn) (.inl O)) ?_)));rintro _ ⟨e2,rfl,he1⟩;refine Ar Ay 1 [] O (A1 (⟨O,_,_,⟨_,_,O,O,O⟩,(List.nil_sublist _),?_⟩))
 all_goals exact⟨⟨_,rfl,fun h=>⟨qO h2 hk hu hcn (he1 h),he1 h⟩⟩,rfl⟩
theorem Zq:∀(ds:List B5),(Hg ds)→Gp Tryz.prog 66 [.p (.lst (List.map Bi ds))] (fun v=>∃a e:Int,v= .tup [.p (I a),.p (I e)]∧(e=0→Ju ds∧jD ds)):=by
 intro ds h1;have hl:=h1.len;refine A5 Tryz.func66 O vE (n:=27) O O (Au Ay 2 [] O (As (Aw (Br O (Aq O (BJ IF O (List.length_map _)) (Ar Ay 1 [] O (Av O (fun c=>?_) (fun c=>?_))))))))
 ·simp only[sd,se] at c;refine Au Ay 2 [] O (A1 (⟨O,_,_,⟨_,_,O,O,⟨_,_,O,O,O⟩⟩,(List.nil_sublist _),?_⟩))
  all_goals exact⟨⟨_,_,rfl,fun h=>absurd h Am⟩,rfl⟩
 simp only[sd,se] at c;refine A2 (As (Au Ay 1 [] O (A9 ?_)));refine Bc (α:=Nat) (fun i=>⟨27,mk [(0,.p (.lst (List.map Bi ds))),(4,.p (I (i:Int)))],[],[]⟩) (fun i=>ds.length - i) (fun i=>i≤ds.length∧(∀j,j<i→∀x,ds[j]?=some x→DG x∧Pp (ds.take j) x)) 0 (⟨by omega,fun j h=>by omega⟩) ?_ ?_
 ·exact BS ⟨we O,we O,Ap⟩ (leH (is:=[]) O (C2))
 rintro i hC
 try simp only at hC
 obtain⟨hi,hC⟩:=hC;refine As (Aw (Ax Ay 2 [] O (Aq O (BJ IF O (List.length_map _)) (Ar Ay 1 [] O (Av O (fun c1=>?_) (fun c1=>?_))))))
 ·simp only[sd,se] at c1;refine A2 (As (A9 (As (Bt (fun k=>Nat.beq k 7) Dn (BR Ay 2 [] O (BG O (fun _=>CZ (lo:=0) (hi:=i) IF O (CG (cj _)) O ⟨_,O⟩ (Nat.zero_le _) AR (ZH (f:=Bi) ds i)) Ap (BR Ay 2 [] O ?_)))))));obtain⟨x,hx⟩:=A6 (l:=ds) (i:=i) An;refine BG O (fun _=>A4 IF O O An (D8 hx) (Cp _)) Ap (BG O (fun _=>BM FZ O (Cp _)) Ap (LO [] O O (CI O O (iT (ds.take i) x (dc h1 fun j hj x hx=>(hC j hj x hx).1) (h1.all _ (List.mem_of_getElem? hx))) (.inl O)) Aj (⟨_,1,O,fun h=>absurd h Am⟩) AB ?_));rintro _ ⟨e,rfl,he⟩;refine⟨Ap,?_⟩;refine Bk Ay 1 [] O (Au Ay 2 [] O (Av O (fun c2=>?_) (fun c2=>?_)))
  ·simp only[sd,se] at c2;refine Au Ay 4 [] O (A1 (⟨O,_,_,⟨_,_,O,O,⟨_,_,O,O,O⟩⟩,(List.nil_sublist _),?_⟩))
   all_goals exact⟨⟨_,_,rfl,fun h=>absurd h Ak⟩,rfl⟩
  simp only[sd,se] at c2;refine A2 (A3 (Ar Ay 3 [] O (⟨(i+1),AW,⟨by omega,Cx (p:=fun j (y:B5)=>DG y∧Pp (ds.take j) y) hC hx (he An)⟩,BS ⟨we rfl,we rfl,trivial⟩ (leH (is:=[]) rfl (C2))⟩)))
 simp only[sd,se] at c1;refine Be (Au Ay 2 [] O (A1 (⟨O,_,_,⟨_,_,O,O,⟨_,_,O,O,O⟩⟩,(List.nil_sublist _),?_⟩)))
 all_goals exact⟨⟨_,_,rfl,fun _=>⟨⟨h1,HW An fun j hj x hx=>(hC j hj x hx).1⟩,fun j x hx=>(hC j (by have:=(List.getElem?_eq_some_iff.1 hx).1;omega) x hx).2⟩⟩,rfl⟩
theorem ID:∀(t:Tm),(We t)→ET Tryz.prog 131 [.agg ((BP t).map .p)] (.p (.bool (decide (Ev t≤400)&&decide (FK t≤150)))):=by
 intro t h1;refine A5 Tryz.func131 O tJ (n:=11) O O (Aw (BF O (BN O) fun b1=>Ar Ay 1 [] O (As (BT [] 2 (fun y=>y= .p (.bool ((decide ((Ev t:Int)≤(400:Int)))&&(decide ((FK t:Int)≤(150:Int)))))) ?_ ?_))))
 ·refine A3 (Aq O (BU (i:=0) BZ O O Ag) (Aq O (BC O O (O4 _ t (Nat.le_refl _) h1.nd) O) (Ax Ay 2 [] O (BO 6 O (fun g=>?_) (fun g=>?_)))))
  ·simp only[sd,se] at g;exact BB O (BU (i:=0) BZ O O Ag) (BB O (BC O O (TH _ t (Nat.le_refl _) h1.nd) O) (Ar Ay 3 [] O ⟨O,O,AM,AI,Ap⟩))
  simp only[sd,se] at g;exact Ar Ay 5 [] O ⟨O,O,AM,AI,Ap⟩
 rintro _ rfl;refine A1 (⟨O,_,_,⟨_,_,O,O,O⟩,(List.nil_sublist _),?_⟩)
 all_goals exact⟨rfl,rfl⟩
theorem Tb:∀(n:Nat) (t:ES) (dp:Int),(Ls t≤n)→(Hu t)→(-1000<dp∧dp<1000)→Gp Tryz.prog 132 [.agg ((Cz t).map .p),.p (I dp)] (fun v=>∃bb:Bool,v= .p (.bool bb)∧(bb=true→(Dc t:Int)≤42 - dp)):=by
 intro n
 induction n with
 | zero=>intro t dp h;have:=QI t;omega
 | succ n ih =>
  intro t dp h1 h2 h3;have htl:=h2.bl;refine A5 Tryz.func132 O uE (n:=47) O O (Aw (BF O (BN O) fun b2=>Ar Ay 1 [] O (As (As (BT [1,2] 19 (fun y=>∃q:Bool,y= .p (.bool q)∧(q=false→dp≤40)) ?_ ?_)))))
  ·refine A3 (Ax Ay 3 [] O (BO 8 O (fun g=>?_) (fun g=>?_)))
   ·simp only[sd,se] at g;exact Ar Ay 11 [] O (⟨O,O,AM,(by refine⟨_,rfl,fun h=>?_⟩;first | (exact absurd h Am) | omega),⟨O,O,Ap⟩⟩)
   simp only[sd,se] at g;refine BB O (Az FG O O) (BB O (A0 (i:=0) Kh O O (CH _)) (BB O (BJ Jt O (F6 _)) (Ax Ay 3 [] O (BO 14 O (fun g1=>?_) (fun g1=>?_)))))
   ·simp only[sd,se] at g1;exact Ar Ay 5 [] O (⟨O,O,AM,(by refine⟨_,rfl,fun h=>?_⟩;first | (exact absurd h Am) | omega),⟨O,O,Ap⟩⟩)
   simp only[sd,se] at g1;exact BB O (Az FG O O) (BB O (Bw (i:=0) BZ O O (E2 _) (BD _)) (BB O (BC O O (ID t.body h2.body) O) (Ar Ay 2 [] O (⟨O,O,AM,(by refine⟨_,rfl,fun h=>?_⟩;first | (exact absurd h Am) | omega),⟨O,O,Ap⟩⟩))))
  rintro _ ⟨q,rfl,hq⟩;refine Av O (fun c=>?_) (fun c=>?_)
  ·refine Au Ay 1 [] O (A1 (⟨O,_,_,⟨_,_,O,O,O⟩,(List.nil_sublist _),?_⟩))
   all_goals exact⟨⟨_,rfl,fun h=>absurd h Am⟩,rfl⟩
  have hq1:=hq (by simpa using c);refine A2 (As (Au Ay 1 [] O (A9 ?_)));refine Bc (α:=Nat) (fun i=>⟨47,mk [(1,.p (I dp)),(2,.ptr b2 0),(5,.p (I (i:Int)))],[.box b2 ((Cz t).map .p)],[]⟩) (fun i=>t.branches.length - i) (fun i=>i≤t.branches.length∧(∀j,j<i→∀x,t.branches[j]?=some x→(Dc x.tree:Int)≤42 - (dp+1))) 0 (⟨by omega,fun j h=>by omega⟩) ?_ ?_
  ·exact BS ⟨we O,we O,we O,Ap⟩ (leH (is:=[0]) O (wl (oe O) (C2)))
  rintro i hC
  try simp only at hC
  obtain⟨hi,hC⟩:=hC;refine As (Aw (Ax Ay 2 [] O (Aq O (A0 (i:=0) Kh O O (CH _)) (Aq O (BJ Jt O (F6 _)) (Ar Ay 1 [] O (Av O (fun c1=>?_) (fun c1=>?_)))))))
  ·simp only[sd,se] at c1;obtain⟨x,hx⟩:=A6 (l:=t.branches) (i:=i) An;refine A2 (As (A9 (As (BT [1,2,5] 46 (fun y=>∃q:Bool,y= .p (.bool q)∧(q=false→(Dc x.tree:Int)≤42 - (dp+1))) ?_ ?_))))
   ·refine A3 (Aq O (Az FG O O) (Aq O (A0 (i:=0) Kh O O (CH _)) (Br O (Aq O (A4 Jt O O An (FQ hx) (DL _)) (Aq O (B1 IZ O O) (Aq O (DP Jl O (Fp _) (Co _)) (Ax Ay 2 [] O (Du O O (CI O O (ih x.tree ((dp:Int)+(1:Int)) (by have:=TF hx;omega) (Jn h2.bs hx).tr An) (.inl O)) ?_))))))));rintro _ ⟨q1,rfl,hq⟩;refine Ax Ay 2 [] O (BO 37 O (fun g=>?_) (fun g=>?_))
    ·simp only[sd,se] at g;exact Ar Ay 9 [] O (⟨O,O,AM,(by refine⟨_,rfl,fun h=>?_⟩;first | (exact absurd h Am) | exact hq (by simpa using g)),⟨O,O,O,Ap⟩⟩)
    simp only[sd,se] at g;exact BB O (Az FG O O) (BB O (A0 (i:=0) Kh O O (CH _)) (BB O (Ba O) (BB O (A4 Jt O O An (FQ hx) (DL _)) (BB O (B1 IZ O O) (BB O (DB MI O (Gd _)) (BB O (GQ nW O) (Ar Ay 2 [] O (⟨O,O,AM,(by refine⟨_,rfl,fun h=>?_⟩;first | (exact absurd h Am) | exact hq (by simpa using g)),⟨O,O,O,Ap⟩⟩))))))))
   rintro _ ⟨q,rfl,hqx⟩;refine Av O (fun c2=>?_) (fun c2=>?_)
   ·refine Au Ay 1 [] O (A1 (⟨O,_,_,⟨_,_,O,O,O⟩,(List.nil_sublist _),?_⟩))
    all_goals exact⟨⟨_,rfl,fun h=>absurd h Am⟩,rfl⟩
   have hok:=hqx (by simpa using c2);refine A2 (A3 (Ar Ay 3 [] O (⟨(i+1),AW,⟨by omega,Cx (p:=fun _ (y:GC)=>(Dc y.tree:Int)≤42 - (dp+1)) hC hx hok⟩,BS ⟨we rfl,we rfl,we rfl,trivial⟩ (leH (is:=[0]) rfl (wl (oe rfl) (C2)))⟩)))
  simp only[sd,se] at c1;refine Be (Au Ay 1 [] O (A1 (⟨O,_,_,⟨_,_,O,O,O⟩,(List.nil_sublist _),?_⟩)))
  all_goals exact⟨⟨_,rfl,fun _=>lI hq1 (HW An hC)⟩,rfl⟩
theorem Wg:∀(d:B5),(Ox d)→Gp Tryz.prog 101 [.agg ((Bi d).map .p)] (fun v=>∃bb:Bool,v= .p (.bool bb)∧(bb=true→VI d)):=by
 intro d h1;have hcl:=h1.cl;have hfl:=h1.fl;have hrl:=h1.rl;refine A5 Tryz.func101 O rM (n:=124) O O (Aw (BF O (BN O) fun b1=>Ar Ay 1 [] O (As (As (BT [1] 47 (fun y=>∃q:Bool,y= .p (.bool q)∧(q=false→Ev d.value≤400)) ?_ ?_)))))
 ·refine A3 (Aq O (Az C5 O O) (Aq O (A0 (i:=0) MI O O (DF _)) (Aq O (GQ nW O) (Ax Ay 2 [] O (BO 10 O (fun g=>?_) (fun g=>?_))))))
  ·simp only[sd,se] at g;exact Ar Ay 37 [] O (⟨O,O,AM,(by refine⟨_,rfl,fun h=>?_⟩;first | (exact absurd h Am) | (simp_all;done) | (simp_all;omega)),⟨O,Ap⟩⟩)
  simp only[sd,se] at g;refine BB O (Az C5 O O) (BB O (Bw (i:=0) BZ O O (E3 _) (BD _)) (BB O (BC O O (ID d.type h1.ty) O) (Ax Ay 3 [] O (BO 16 O (fun g1=>?_) (fun g1=>?_)))))
  ·simp only[sd,se] at g1;exact Ar Ay 31 [] O (⟨O,O,AM,(by refine⟨_,rfl,fun h=>?_⟩;first | (exact absurd h Am) | (simp_all;done) | (simp_all;omega)),⟨O,Ap⟩⟩)
  simp only[sd,se] at g1;refine BB O (Az C5 O O) (BB O (Bw (i:=0) BZ O O (FA _) (BD _)) (BB O (BC O O (ID d.value h1.vl) O) (Ax Ay 3 [] O (BO 22 O (fun g2=>?_) (fun g2=>?_)))))
  ·simp only[sd,se] at g2;exact Ar Ay 25 [] O (⟨O,O,AM,(by refine⟨_,rfl,fun h=>?_⟩;first | (exact absurd h Am) | (simp_all;done) | (simp_all;omega)),⟨O,Ap⟩⟩)
  simp only[sd,se] at g2;refine BB O (Az C5 O O) (BB O (A0 (i:=0) H4 O O (CC _)) (BB O (BJ Hc O (List.length_map _)) (Ax Ay 3 [] O (BO 28 O (fun g3=>?_) (fun g3=>?_)))))
  ·simp only[sd,se] at g3;exact Ar Ay 19 [] O (⟨O,O,AM,(by refine⟨_,rfl,fun h=>?_⟩;first | (exact absurd h Am) | (simp_all;done) | (simp_all;omega)),⟨O,Ap⟩⟩)
  simp only[sd,se] at g3;refine BB O (Az C5 O O) (BB O (A0 (i:=0) Hq O O (CJ _)) (BB O (BJ HV O (List.length_map _)) (Ax Ay 3 [] O (BO 34 O (fun g4=>?_) (fun g4=>?_)))))
  ·simp only[sd,se] at g4;exact Ar Ay 13 [] O (⟨O,O,AM,(by refine⟨_,rfl,fun h=>?_⟩;first | (exact absurd h Am) | (simp_all;done) | (simp_all;omega)),⟨O,Ap⟩⟩)
  simp only[sd,se] at g4;refine Ax Ay 2 [] O (BB O (Bw (i:=0) BZ O O (E5 _) (BD _)) (BB O (BC O O (ID d.recs.type h1.rt) O) (Ax Ay 3 [] O (BO 41 O (fun g5=>?_) (fun g5=>?_)))))
  ·simp only[sd,se] at g5;exact Ar Ay 6 [] O (⟨O,O,AM,(by refine⟨_,rfl,fun h=>?_⟩;first | (exact absurd h Am) | (simp_all;done) | (simp_all;omega)),⟨O,Ap⟩⟩)
  simp only[sd,se] at g5;exact Ax Ay 2 [] O (BB O (A0 (i:=0) Gn O O (Cj _)) (BB O (BJ Bf O (BQ _)) (Ar Ay 2 [] O (⟨O,O,AM,(by refine⟨_,rfl,fun h=>?_⟩;first | (exact absurd h Am) | (simp_all;done) | (simp_all;omega)),⟨O,Ap⟩⟩))))
 rintro _ ⟨q,rfl,hq⟩;refine Av O (fun c=>?_) (fun c=>?_)
 ·refine Au Ay 1 [] O (A1 (⟨O,_,_,⟨_,_,O,O,O⟩,(List.nil_sublist _),?_⟩))
  all_goals exact⟨⟨_,rfl,fun h=>absurd h Am⟩,rfl⟩
 have hq1:=hq (by simpa using c);refine A2 (As (Au Ay 1 [] O (A9 (Bc (α:=Nat) (fun i=>⟨124,mk [(1,.ptr b1 0),(3,.p (I (i:Int)))],[.box b1 ((Bi d).map .p)],[]⟩) (fun i=>d.ctors.length - i) (fun i=>i≤d.ctors.length) 0 AQ ?_ ?_))))
 ·exact BS ⟨we O,we O,Ap⟩ (leH (is:=[0]) O (wl (oe O) (C2)))
 rintro i hC
 try simp only at hC
 have hi:=hC;refine As (Aw (Ax Ay 2 [] O (Aq O (A0 (i:=0) H4 O O (CC _)) (Aq O (BJ Hc O (List.length_map _)) (Ar Ay 1 [] O (Av O (fun c1=>?_) (fun c1=>?_)))))))
 ·simp only[sd,se] at c1;refine A2 (As (A9 (As (BT [1,3] 72 Kp ?_ ?_))))
  ·refine A3 (Aq O (Az C5 O O) (Aq O (A0 (i:=0) H4 O O (CC _)) (Br O ?_)));obtain⟨x,hx⟩:=A6 (l:=d.ctors) (i:=i) An;refine Aq O (A4 Hc O O An (Em hx) (EE _)) (Aq O (B1 Jh O O) (Aq O (DB MI O (Fg _)) (Aq O (GQ nW O) (Ax Ay 2 [] O (BO 63 O (fun g=>?_) (fun g=>?_))))))
   ·simp only[sd,se] at g;exact Ar Ay 9 [] O (⟨O,O,AM,⟨_,O⟩,⟨O,O,Ap⟩⟩)
   simp only[sd,se] at g;exact BB O (Az C5 O O) (BB O (A0 (i:=0) H4 O O (CC _)) (BB O (Ba O) (BB O (A4 Hc O O An (Em hx) (EE _)) (BB O (B1 Jh O O) (BB O (DP BZ O (Fi _) (BD _)) (BB O (BC O O (ID x.type (h1.cs _ (List.mem_of_getElem? hx)).ty) O) (Ar Ay 2 [] O (⟨O,O,AM,⟨_,O⟩,⟨O,O,Ap⟩⟩))))))))
  rintro _ ⟨q1,rfl⟩;refine Av O (fun c2=>?_) (fun c2=>?_)
  ·refine Au Ay 1 [] O (A1 (⟨O,_,_,⟨_,_,O,O,O⟩,(List.nil_sublist _),?_⟩))
   all_goals exact⟨⟨_,rfl,fun h=>absurd h Am⟩,rfl⟩
  refine A2 (A3 (Ar Ay 3 [] O ?_));refine⟨(i+1),AW,by omega,BS ⟨we rfl,we rfl,trivial⟩ (leH (is:=[0]) rfl (wl (oe rfl) (C2)))⟩
 simp only[sd,se] at c1;refine Be (As (Au Ay 1 [] O (A9 ?_)));refine Bc (α:=Nat) (fun i=>⟨124,mk [(1,.ptr b1 0),(4,.p (I (i:Int)))],[.box b1 ((Bi d).map .p)],[]⟩) (fun i=>d.recs.rules.length - i) (fun i=>i≤d.recs.rules.length∧(∀j,j<i→∀x,d.recs.rules[j]?=some x→Ev x≤400)) 0 (⟨by omega,fun j h=>by omega⟩) ?_ ?_
 ·exact BS ⟨we O,we O,Ap⟩ (leH (is:=[0]) O (wl (oe O) (C2)))
 rintro i hC1
 try simp only at hC1
 obtain⟨hi,hR⟩:=hC1;refine As (Aw (Ax Ay 3 [] O (Aq O (A0 (i:=0) Gn O O (Cj _)) (Aq O (BJ Bf O (BQ _)) (Ar Ay 1 [] O (Av O (fun c2=>?_) (fun c2=>?_)))))))
 ·simp only[sd,se] at c2;refine A2 (As (A9 (Aw (Ax Ay 2 [] O (Aq O (A0 (i:=0) Gn O O (Cj _)) (Br O ?_))))));obtain⟨x,hx⟩:=A6 (l:=d.recs.rules) (i:=i) An;refine Aq O (A4 Bf O O An (Bd hx) (BD _)) (Aq O (BM BZ O (BD _)) (Aq O (BC O O (ID x (h1.rs _ (List.mem_of_getElem? hx))) O) (Ar Ay 1 [] O (Av O (fun c3=>?_) (fun c3=>?_)))))
  ·simp only[sd,se] at c3;refine Au Ay 1 [] O (A1 (⟨O,_,_,⟨_,_,O,O,O⟩,(List.nil_sublist _),?_⟩))
   all_goals exact⟨⟨_,rfl,fun h=>absurd h Am⟩,rfl⟩
  simp only[sd,se] at c3;have hqr:Ev x≤400:=by simp_all
  refine A2 (A3 (Ar Ay 3 [] O (⟨(i+1),AW,⟨by omega,Cx (p:=fun _ (y:Tm)=>Ev y≤400) hR hx hqr⟩,BS ⟨we rfl,we rfl,trivial⟩ (leH (is:=[0]) rfl (wl (oe rfl) (C2)))⟩)))
 simp only[sd,se] at c2;refine Be (As (Au Ay 1 [] O (A9 ?_)));refine Bc (α:=Nat) (fun i=>⟨124,mk [(1,.ptr b1 0),(5,.p (I (i:Int)))],[.box b1 ((Bi d).map .p)],[]⟩) (fun i=>d.funs.length - i) (fun i=>i≤d.funs.length∧(∀j,j<i→∀x,d.funs[j]?=some x→(Dc x.tree:Int)≤42 - 0)) 0 (⟨by omega,fun j h=>by omega⟩) ?_ ?_
 ·exact BS ⟨we O,we O,Ap⟩ (leH (is:=[0]) O (wl (oe O) (C2)))
 rintro i hC2
 try simp only at hC2
 obtain⟨hi,hT⟩:=hC2;refine As (Aw (Ax Ay 2 [] O (Aq O (A0 (i:=0) Hq O O (CJ _)) (Aq O (BJ HV O (List.length_map _)) (Ar Ay 1 [] O (Av O (fun c3=>?_) (fun c3=>?_)))))))
 ·simp only[sd,se] at c3;obtain⟨x,hx⟩:=A6 (l:=d.funs) (i:=i) An;refine A2 (As (A9 (As (BT [1,5] 123 (fun y=>∃q:Bool,y= .p (.bool q)∧(q=false→(Dc x.tree:Int)≤42 - 0)) ?_ ?_))))
  ·refine A3 (Aq O (Az C5 O O) (Aq O (A0 (i:=0) Hq O O (CJ _)) (Br O (Aq O (A4 HV O O An (EZ hx) (DZ _)) (Aq O (B1 HE O O) (Aq O (DB MI O (I7 _)) (Aq O (GQ nW O) (Ax Ay 2 [] O (BO 104 O (fun g=>?_) (fun g=>?_))))))))))
   ·simp only[sd,se] at g;exact Ar Ay 19 [] O (⟨O,O,AM,(by refine⟨_,rfl,fun h=>?_⟩;first | (exact absurd h Am) | exact hq (by simpa using h)),⟨O,O,Ap⟩⟩)
   simp only[sd,se] at g;refine BB O (Az C5 O O) (BB O (A0 (i:=0) Hq O O (CJ _)) (BB O (Ba O) (BB O (A4 HV O O An (EZ hx) (DZ _)) (BB O (B1 HE O O) (BB O (DP BZ O (JC _) (BD _)) (BB O (BC O O (ID x.type (h1.fs _ (List.mem_of_getElem? hx)).ty) O) (Ax Ay 3 [] O (BO 114 O (fun g1=>?_) (fun g1=>?_)))))))))
   ·simp only[sd,se] at g1;exact Ar Ay 9 [] O (⟨O,O,AM,(by refine⟨_,rfl,fun h=>?_⟩;first | (exact absurd h Am) | exact hq (by simpa using h)),⟨O,O,Ap⟩⟩)
   simp only[sd,se] at g1;refine BB O (Az C5 O O) (BB O (A0 (i:=0) Hq O O (CJ _)) (BB O (Ba O) (BB O (A4 HV O O An (EZ hx) (DZ _)) (BB O (B1 HE O O) (BB O (DP Jl O (D1 _) (Co _)) (IN O O O O (CI O O (Tb (Ls x.tree) x.tree 0 (Nat.le_refl _) (h1.fs _ (List.mem_of_getElem? hx)).tr An) (.inl O)) ?_))))));rintro _ ⟨q1,rfl,hq⟩;exact Ar Ay 2 [] O (⟨O,O,AM,(by refine⟨_,rfl,fun h=>?_⟩;first | (exact absurd h Am) | exact hq (by simpa using h)),⟨O,O,Ap⟩⟩)
  rintro _ ⟨q,rfl,hqx⟩;refine Av O (fun c4=>?_) (fun c4=>?_)
  ·refine Au Ay 1 [] O (A1 (⟨O,_,_,⟨_,_,O,O,O⟩,(List.nil_sublist _),?_⟩))
   all_goals exact⟨⟨_,rfl,fun h=>absurd h Am⟩,rfl⟩
  have hok:=hqx (by simpa using c4);refine A2 (A3 (Ar Ay 3 [] O (⟨(i+1),AW,⟨by omega,Cx (p:=fun _ (y:Hp)=>(Dc y.tree:Int)≤42 - 0) hT hx hok⟩,BS ⟨we rfl,we rfl,trivial⟩ (leH (is:=[0]) rfl (wl (oe rfl) (C2)))⟩)))
 simp only[sd,se] at c3;refine Be (Au Ay 1 [] O (A1 (⟨O,_,_,⟨_,_,O,O,O⟩,(List.nil_sublist _),?_⟩)))
 all_goals exact⟨⟨_,rfl,fun _=>jz h1 hq1 (HW An hR) (HW An hT)⟩,rfl⟩
theorem mq:∀(ds:List B5),(Hg ds)→Gp Tryz.prog 65 [.p (.lst (List.map Bi ds))] (fun v=>∃bb:Bool,v= .p (.bool bb)∧(bb=true→(∀d∈ds,VI d)∧ds.length≤70)):=by
 intro ds h1;have hl:=h1.len;refine A5 Tryz.func65 O uu (n:=23) O O (Au Ay 1 [] O (As (Au Ay 1 [] O (A9 ?_))));refine Bc (α:=Nat) (fun i=>⟨23,mk [(0,.p (.lst (List.map Bi ds))),(3,.p (I (i:Int)))],[],[]⟩) (fun i=>ds.length - i) (fun i=>i≤ds.length∧(∀j,j<i→∀x,ds[j]?=some x→VI x)) 0 (⟨by omega,fun j h=>by omega⟩) ?_ ?_
 ·exact BS ⟨we O,we O,Ap⟩ (leH (is:=[]) O (C2))
 rintro i hC
 try simp only at hC
 obtain⟨hi,hC⟩:=hC;refine As (As (BT [0,3] 11 (fun y=>∃q:Bool,y= .p (.bool q)∧(q=true→i<ds.length)∧(q=false→ds.length≤i∨80≤i)) ?_ ?_))
 ·refine A3 (Ax Ay 2 [] O (Aq O (BJ IF O (List.length_map _)) (Ax Ay 2 [] O (BO 8 O (fun g=>?_) (fun g=>?_)))))
  ·simp only[sd,se] at g;refine Ar Ay 3 [] O ?_;exact⟨rfl,rfl,AM,(by refine⟨_,rfl,fun h=>?_,fun h=>?_⟩<;>first | (exact absurd h Am) | omega | (simp only[decide_eq_true_eq,decide_eq_false_iff_not] at h;omega)),⟨rfl,rfl,trivial⟩⟩
  simp only[sd,se] at g;refine Ar Ay 3 [] O ?_;exact⟨rfl,rfl,AM,(by refine⟨_,rfl,fun h=>?_,fun h=>?_⟩<;>first | (exact absurd h Am) | omega | (simp only[decide_eq_true_eq,decide_eq_false_iff_not] at h;omega)),⟨rfl,rfl,trivial⟩⟩
 rintro _ ⟨q,rfl,hq,hqn⟩;refine Av O (fun c=>?_) (fun c=>?_)
 ·have hq1:=hq (by simpa using c);refine A2 (As (A9 (Aw (Ax Ay 2 [] O ?_))));obtain⟨x,hx⟩:=A6 (l:=ds) (i:=i) An;refine Aq O (A4 IF O O An (D8 hx) (Cp _)) (Aq O (BM FZ O (Cp _)) (Du O O (CI O O (Wg x (h1.all _ (List.mem_of_getElem? hx))) (.inl O)) ?_));rintro _ ⟨q1,rfl,hq⟩;refine Ar Ay 1 [] O (Av O (fun c1=>?_) (fun c1=>?_))
  ·simp only[sd,se] at c1;refine Au Ay 1 [] O (A1 (⟨O,_,_,⟨_,_,O,O,O⟩,(List.nil_sublist _),?_⟩))
   all_goals exact⟨⟨_,rfl,fun h=>absurd h Am⟩,rfl⟩
  simp only[sd,se] at c1;have hok:=hq (by simpa using c1);refine A2 (A3 (Ar Ay 3 [] O (⟨(i+1),AW,⟨by omega,Cx (p:=fun _ (y:B5)=>VI y) hC hx hok⟩,BS ⟨we rfl,we rfl,trivial⟩ (leH (is:=[]) rfl (C2))⟩)))
 have hqe:=hqn (by simpa using c);refine Be (Aw (Br O (Aq O (BJ IF O (List.length_map _)) (Ar Ay 2 [] O (A1 (⟨O,_,_,⟨_,_,O,O,O⟩,(List.nil_sublist _),?_⟩))))))
 all_goals exact⟨⟨_,rfl,fun h=>⟨HW (by simp only[decide_eq_true_eq] at h;omega) hC,by simp only[decide_eq_true_eq] at h;omega⟩⟩,rfl⟩
theorem fh:∀(ds:List B5),(Hg ds)→Gp Tryz.prog 31 [.p (.lst (List.map Bi ds))] (fun v=>∃bb:Bool,v= .p (.bool bb)∧(bb=true→(Gi ds∧jD ds)∧ds.length≤70)):=by
 intro ds h1;refine A5 Tryz.func31 O u0 (n:=15) O O (Au Ay 1 [] O (As (Aw (Br O (Du O O (CI O O (mq ds h1) (.inl O)) ?_)))));rintro _ ⟨q,rfl,hq⟩;refine Ar Ay 1 [] O (Av O (fun c=>?_) (fun c=>?_))
 ·simp only[sd,se] at c;refine Au Ay 1 [] O (A1 (⟨O,_,_,⟨_,_,O,O,O⟩,(List.nil_sublist _),?_⟩))
  all_goals exact⟨⟨_,rfl,fun h=>absurd h Am⟩,rfl⟩
 simp only[sd,se] at c;have hf:=hq (by simpa using c);refine A2 (Aw (Br O (Du O O (CI O O (Zq ds h1) (.inl O)) ?_)));rintro _ ⟨a,e,rfl,he⟩;refine Ar Ay 5 [] O (Au Ay 3 [] O (A1 (⟨O,_,_,⟨_,_,O,O,O⟩,(List.nil_sublist _),?_⟩)))
 all_goals exact⟨⟨_,rfl,fun h=>⟨⟨mW (he (by simpa using h)).1 hf.1,(he (by simpa using h)).2⟩,hf.2⟩⟩,rfl⟩
end Go.Proofs.YtboammbpdaoojaaGreat
namespace Go.Eu
open Go.Abs
def vT (i:Int):Tm:= .mk 0 i ⟨#[]⟩ [] []
def PB (nm:ByteArray):Tm:= .mk 3 0 nm [] []
def K6:ByteArray:=⟨#[78,97,116]⟩
def nG:ByteArray:=⟨#[122,101,114,111]⟩
def UM:ByteArray:=⟨#[115,117,99,99]⟩
def QS:ByteArray:=⟨#[112,108,117,115]⟩
def Yp (b:Tm):Tm:=if (CT 1 0 0 0 b).2≠0 then Bh else (CT 1 0 0 0 b).1
def Zv (a b:Tm):Tm:= .mk 6 0 ⟨#[]⟩ [] [a,Yp b]
def Z5:B5:=⟨3,K6,0,.mk 2 0 ⟨#[]⟩ [⟨0,[]⟩] [],Bh,0,[⟨nG,PB K6⟩,⟨UM,Zv (PB K6) (PB K6)⟩],⟨0,PB K6,[PB K6,PB K6]⟩,[]⟩
def Rf:ES:= .mk 1 Bh 0 [.mk nG false (.mk 0 (vT 0) 0 []),.mk UM false (.mk 0 (apply (PB UM) [apply (PB QS) [vT 0,vT 1]]) 0 [])]
def SJ:B5:=⟨4,⟨#[]⟩,0,Bh,Bh,0,[],⟨0,Bh,[]⟩,[⟨QS,Zv (PB K6) (Zv (PB K6) (PB K6)),2,Rf⟩]⟩
def Dh:List B5:=[Z5,SJ]
theorem ot (nm:ByteArray) (h:nm.size<DY):Nd (PB nm):=by
 simp only[PB,Nd,NI,List.length_nil,DY];simp only[DY] at h;exact⟨h,by omega,by simp,by omega,trivial,by simp[JE],by simp[JE]⟩
theorem wT:Nd (Zv (PB K6) (PB K6)):=by
 have h:Yp (PB K6)=PB K6:=by rfl
 have h1:=ot K6 Am;rw[Zv,h];simp only[Nd,NI,List.length_nil,List.length_cons,DY];exact⟨by decide,by omega,by simp,by omega,⟨h1,h1,trivial⟩,by simp[JE],by simp[JE]⟩
end Go.Eu
namespace Go.Proofs.YtboammbpdaoojaaGreat
open Go.Abs Go.Eu
theorem Iz:∀(nm:ByteArray),ET Tryz.prog 35 [.p (.str nm)] (.agg ((BP (.mk 3 0 nm [] [])).map .p)):=by
 intro nm;refine A5 Tryz.func35 O wU (n:=5) O O (Aw (BF O (A7 Bx O) fun b2=>Bg O (Au Ay 3 [0,0] O (BH (BW (i:=0) O) (A1 (⟨O,_,_,⟨_,_,O,(BA (i:=0) BZ O O O),O⟩,(List.nil_sublist _),?_⟩))))))
 all_goals exact⟨rfl,rfl⟩
theorem iK:∀(i:Int),ET Tryz.prog 68 [.p (I i)] (.agg ((BP (.mk 0 i ⟨#[]⟩ [] [])).map .p)):=by
 intro i;refine A5 Tryz.func68 O uY (n:=5) O O (Aw (BF O (A7 Bx O) fun b2=>Bg O (Au Ay 3 [0,0] O (BH (BW (i:=0) O) (A1 (⟨O,_,_,⟨_,_,O,(BA (i:=0) BZ O O O),O⟩,(List.nil_sublist _),?_⟩))))))
 all_goals exact⟨rfl,rfl⟩
theorem Kv:∀(i:Int),ET Tryz.prog 33 [.p (I i)] (.agg ((BP (.mk 0 i ⟨#[]⟩ [] [])).map .p)):=by
 intro i;refine A5 Tryz.func33 O vG (n:=5) O O (Aw (BF O (A7 Bx O) fun b2=>Bg O (Au Ay 3 [0,0] O (BH (BW (i:=0) O) (A1 (⟨O,_,_,⟨_,_,O,(BA (i:=0) BZ O O O),O⟩,(List.nil_sublist _),?_⟩))))))
 all_goals exact⟨rfl,rfl⟩
theorem bP:∀(t:Tm) (l:List Tm),(l.length<DY)→ET Tryz.prog 69 [.agg ((BP t).map .p),.p (.lst (BE l))] (.agg ((BP (apply t l)).map .p)):=by
 intro t l h1;refine A5 Tryz.func69 O ve (n:=8) O O (Aw (BF O (BN O) fun b2=>BF O (A7 Bx O) fun b4=>Bg O (Aw (Ax Ay 2 [1] O (Aq O (BC O O (GM t l h1) O) (Ar Ay 1 [0,1] O (A1 (⟨O,_,_,⟨_,_,O,(BA (i:=0) BZ O O Ag),O⟩,(List.nil_sublist _),?_⟩))))))))
 all_goals exact⟨rfl,rfl⟩
theorem aS:∀(t:Tm) (l:List Tm),(l.length<DY)→ET Tryz.prog 34 [.agg ((BP t).map .p),.p (.lst (BE l))] (.agg ((BP (apply t l)).map .p)):=by
 intro t l h1;refine A5 Tryz.func34 O vO (n:=8) O O (Aw (BF O (BN O) fun b2=>BF O (A7 Bx O) fun b4=>Bg O (Aw (Ax Ay 2 [1] O (Aq O (BC O O (GM t l h1) O) (Ar Ay 1 [0,1] O (A1 (⟨O,_,_,⟨_,_,O,(BA (i:=0) BZ O O Ag),O⟩,(List.nil_sublist _),?_⟩))))))))
 all_goals exact⟨rfl,rfl⟩
theorem gx:∀(t:Tm) (by' fr:Int),(Nd t)→(size t<1000000)→(by'=1)→(fr=0)→ET Tryz.prog 103 [.agg ((BP t).map .p),.p (I by'),.p (I fr)] (.tup [.agg ((BP (Yp t)).map .p),.p (I ((CT 1 0 0 0 t).2))]):=by
 intro t by' fr h1 h2 h3 h4
 refine A5 Tryz.func103 O tN (n:=40) O O (Aw (BF O (BN O) fun b3=>BF O (A7 Bx O) fun b6=>Ar Ay 1 [] O (As (As (BT [1,2,3,6] 19 (fun y=>y= .p (.bool (((decide ((fr:Int)<(0:Int)))||(decide ((by':Int)<(-65536:Int))))||(decide ((by':Int) > (65536:Int)))))) ?_ ?_)))))
 ·refine A3 (Ax Ay 3 [] O (BO 12 O (fun g=>?_) (fun g=>?_)))
  ·simp only[sd,se] at g;exact Ar Ay 7 [] O (⟨O,O,AM,AI,⟨O,O,O,O,Ap⟩⟩)
  simp only[sd,se] at g;refine Ax Ay 4 [] O (BO 16 O (fun g1=>?_) (fun g1=>?_))
  ·simp only[sd,se] at g1;exact Ar Ay 3 [] O (⟨O,O,AM,AI,⟨O,O,O,O,Ap⟩⟩)
  simp only[sd,se] at g1;exact Ar Ay 3 [] O (⟨O,O,AM,AI,⟨O,O,O,O,Ap⟩⟩)
 rintro _ rfl;refine Av O (fun c=>?_) (fun c=>?_)
 ·simp only[sd,se] at c;refine Au Ay 3 [0,0] O (BH (BW (i:=0) O) (A1 (⟨O,_,_,⟨_,_,O,(BA (i:=0) BZ O O O),⟨_,_,O,O,O⟩⟩,(List.nil_sublist _),?_⟩)))
  all_goals exact⟨by show (.tup [.agg [.p (I 0),.p (I 0),.p (.str ⟨#[]⟩),.p (.lst []),.p (.lst [])],.p (I 2)]:AV)=_;exfalso;omega,rfl⟩
 simp only[sd,se] at c;refine A2 (Aw (Aq O (CO fQ jX O) (BF O (BN O) fun b22=>Ar Ay 1 [] O (Aw (Ax Ay 4 [2] O (Aq O (aF O O) (Aq O (CE [0] O (.inl ⟨O,O,O⟩) (cG _ t b22 by' (min (fr:Int) (65536:Int)) 0 0 0 (Nat.le_refl _) h1 An An) ⟨_,_,rfl,rfl,rfl⟩ Am rfl (.inl rfl)) (BF O (A7 Bx O) fun b9=>Ar Ay 1 [0,1] O (As (Au Ay 5 [1] O (Av O (fun c1=>?_) (fun c1=>?_))))))))))))
 ·simp only[sd,se] at c1;refine As (Bt (fun k=>false) Dn (Bk Ay 7 [1,2,0] O (BH (BW (i:=2) O) (A1 (⟨O,_,_,⟨_,_,O,(BA (i:=2) BZ O O O),⟨_,_,O,O,O⟩⟩,(List.nil_sublist _),?_⟩)))))
  all_goals exact⟨by show (.tup [.agg [.p (I 0),.p (I 0),.p (.str ⟨#[]⟩),.p (.lst []),.p (.lst [])],.p (I ((CT by' (min (fr:Int) (65536:Int)) 0 0 t).2))]:AV)=_;subst h3 h4;have c2:(CT 1 0 0 0 t).2≠0:=c1;rw[Yp,if_pos c2];rfl,rfl⟩
 simp only[sd,se] at c1;refine A2 (Au Ay 3 [0,2,1] O (A1 (⟨O,_,_,⟨_,_,O,(BA (i:=2) BZ O O Ag),⟨_,_,O,O,O⟩⟩,(List.nil_sublist _),?_⟩)))
 all_goals exact⟨by show (.tup [.agg ((BP ((CT by' (min (fr:Int) (65536:Int)) 0 0 t).1)).map .p),.p (I 0)]:AV)=_;subst h3 h4;have c2:(CT 1 0 0 0 t).2=0:=c1;rw[Yp,if_neg (fun h=>h c2),c2];rfl,rfl⟩
theorem Z2:∀(a b:Tm),(Nd b)→(size b<1000000)→ET Tryz.prog 70 [.agg ((BP a).map .p),.agg ((BP b).map .p)] (.agg ((BP (.mk 6 0 ⟨#[]⟩ [] [a,Yp b])).map .p)):=by
 intro a b h1 h2;refine A5 Tryz.func70 O vi (n:=16) O O (Aw (BF O (BN O) fun b2=>BF O (BN O) fun b3=>BF O (A7 Bx O) fun b4=>Bg O (Aw (Aq O (BU (i:=1) BZ O O Ag) (Aq O (BC O O (gx b 1 0 h1 h2 O O) O) (Ax Ay 3 [] O (BF O (A7 Bx O) fun b5=>Ar Ay 2 [0,1] O (Aw (Ax Ay 2 [3,0] O (Aq O (Bu (rows:=BE [a,(Yp b)]) Bf Bx O O O O (CG (Bv _)) (E6 _)) (Ar Ay 2 [1,0] O (BH (BW (i:=1) O) (A1 (⟨O,_,_,⟨_,_,O,(BA (i:=1) BZ O O O),O⟩,(List.nil_sublist _),?_⟩))))))))))))))
 all_goals exact⟨rfl,rfl⟩
theorem oC (l:List IS):∀r∈l.map G1,∀c∈r,c≠ .nils:=by
 intro r hr;obtain⟨t,_,rfl⟩:=List.mem_map.1 hr;intro c hc;simp only[G1,List.mem_cons] at hc;rcases hc with rfl | hc
 ·simp
 exact wo _ c hc
set_option maxHeartbeats 4000000 in
theorem me:ET Tryz.prog 36 [] (.p (.lst (List.map Bi Dh))):=by
 refine A5 Tryz.func36 O wI (n:=55) O O (Au Ay 1 [] O (Au Ay 1 [] O (Aw (Aq O (BC O O (Iz ⟨#[78,97,116]⟩) O) (BF O (A7 Bx O) fun b2=>Ar Ay 1 [0,1] O (Au Ay 1 [] O (As ?_)))))));refine V4 [.val (.agg [.p (I 0),.p (.nils)]),.val (.p (.lst (List.map By ([(CS.mk 0 [])])))),.val (.agg [.p (I 2),.p (I 0),.p (.str ⟨#[]⟩),.p (.lst (List.map By ([(CS.mk 0 [])]))),.p (.nils)]),.val (.agg [.p (I 3),.p (I 0),.p (.str ⟨#[78,97,116]⟩),.p (.lst (List.map By [])),.p (.lst (BE []))]),.val (.agg [.p (.str ⟨#[122,101,114,111]⟩),.p (I 3),.p (I 0),.p (.str ⟨#[78,97,116]⟩),.p (.lst (List.map By [])),.p (.lst (BE []))]),.val (.agg [.p (I 3),.p (I 0),.p (.str ⟨#[78,97,116]⟩),.p (.lst (List.map By [])),.p (.lst (BE []))]),.val (.agg [.p (I 3),.p (I 0),.p (.str ⟨#[78,97,116]⟩),.p (.lst (List.map By [])),.p (.lst (BE []))]),.val (.agg [.p (I 6),.p (I 0),.p (.str ⟨#[]⟩),.p (.lst (List.map By [])),.p (.lst (BE ([(.mk 3 0 ⟨#[78,97,116]⟩ [] []:Tm),Yp (.mk 3 0 ⟨#[78,97,116]⟩ [] []:Tm)])))]),.val (.agg [.p (.str ⟨#[115,117,99,99]⟩),.p (I 6),.p (I 0),.p (.str ⟨#[]⟩),.p (.lst (List.map By [])),.p (.lst (BE ([(.mk 3 0 ⟨#[78,97,116]⟩ [] []:Tm),Yp (.mk 3 0 ⟨#[78,97,116]⟩ [] []:Tm)])))]),.val (.p (.lst (List.map G1 ([(IS.mk ⟨#[122,101,114,111]⟩ (.mk 3 0 ⟨#[78,97,116]⟩ [] []:Tm)),(IS.mk ⟨#[115,117,99,99]⟩ (.mk 6 0 ⟨#[]⟩ [] ([(.mk 3 0 ⟨#[78,97,116]⟩ [] []:Tm),Yp (.mk 3 0 ⟨#[78,97,116]⟩ [] []:Tm)]):Tm))])))),.val (.agg [.p (I 3),.p (.str ⟨#[78,97,116]⟩),.p (I 0),.p (I 2),.p (I 0),.p (.str ⟨#[]⟩),.p (.lst (List.map By ([(CS.mk 0 [])]))),.p (.nils),.p (I 0),.p (I 0),.p (.str ⟨#[]⟩),.p (.nils),.p (.nils),.p (I 0),.p (.lst (List.map G1 ([(IS.mk ⟨#[122,101,114,111]⟩ (.mk 3 0 ⟨#[78,97,116]⟩ [] []:Tm)),(IS.mk ⟨#[115,117,99,99]⟩ (.mk 6 0 ⟨#[]⟩ [] ([(.mk 3 0 ⟨#[78,97,116]⟩ [] []:Tm),Yp (.mk 3 0 ⟨#[78,97,116]⟩ [] []:Tm)]):Tm))]))),.p (I 0),.p (I 0),.p (I 0),.p (.str ⟨#[]⟩),.p (.nils),.p (.nils),.p (.nils),.p (.nils)]),.new [.p (I 0),.p (.str ⟨#[]⟩),.p (I 0),.p (I 0),.p (I 0),.p (.str ⟨#[]⟩),.p (.nils),.p (.nils),.p (I 0),.p (I 0),.p (.str ⟨#[]⟩),.p (.nils),.p (.nils),.p (I 0),.p (.nils),.p (I 0),.p (I 0),.p (I 0),.p (.str ⟨#[]⟩),.p (.nils),.p (.nils),.p (.nils),.p (.nils)]] Dn O Aj Aj ?_
 refine C6 O (fun Bs=>CO Up EI O) (C6 O (fun Bs=>Bl EV EI O O O O O) (C6 O (fun Bs=>CO HJ Bx O) (C6 O (fun Bs=>BU (i:=Bs.length+0) BZ O (CX O) Ag) (C6 O (fun Bs=>CO Jh aj O) (C6 O (fun Bs=>BU (i:=Bs.length+0) BZ O (CX O) O) (C6 O (fun Bs=>BU (i:=Bs.length+0) BZ O (CX O) O) (C6 O (fun Bs=>BC O O (Z2 (.mk 3 0 ⟨#[78,97,116]⟩ [] []:Tm) (.mk 3 0 ⟨#[78,97,116]⟩ [] []:Tm) (ot _ Am) (by simp[size,BX])) O) (C6 O (fun Bs=>CO Jh aj O) ?_))))))));refine C6 O (fun Bs=>Bu (rows:=List.map G1 ([(IS.mk ⟨#[122,101,114,111]⟩ (.mk 3 0 ⟨#[78,97,116]⟩ [] []:Tm)),(IS.mk ⟨#[115,117,99,99]⟩ (.mk 6 0 ⟨#[]⟩ [] ([(.mk 3 0 ⟨#[78,97,116]⟩ [] []:Tm),Yp (.mk 3 0 ⟨#[78,97,116]⟩ [] []:Tm)]):Tm))])) Hc aj O O O O (CG (dT _)) (oC _)) (C6 O (fun Bs=>CO C5 Jw O) (TM O (fun Bs=>A7 Jw O) fun b4=>Hk ?_))
 change AL _ _ _ 12 ⟨55,_,[.box b4 [.p (I 0),.p (.str ⟨#[]⟩),.p (I 0),.p (I 0),.p (I 0),.p (.str ⟨#[]⟩),.p (.nils),.p (.nils),.p (I 0),.p (I 0),.p (.str ⟨#[]⟩),.p (.nils),.p (.nils),.p (I 0),.p (.nils),.p (I 0),.p (I 0),.p (I 0),.p (.str ⟨#[]⟩),.p (.nils),.p (.nils),.p (.nils),.p (.nils)],.box b2 [.p (I 3),.p (I 0),.p (.str ⟨#[78,97,116]⟩),.p (.lst (List.map By [])),.p (.lst (BE []))]],[]⟩ _
 refine Ar Ay 1 [0,0] O (Aw (Ax Ay 3 [1,1,1] O (Aq O (Bu (rows:=BE ([(.mk 3 0 ⟨#[78,97,116]⟩ [] []:Tm),(.mk 3 0 ⟨#[78,97,116]⟩ [] []:Tm)])) Bf Bx O O O O (CG (Bv _)) (E6 _)) (Ar Ay 3 [0,0] O (Aw (Br O (Aq O (BC O O (iK 0) O) (Ax Ay 3 [] O (Aq O (BC O O (Iz ⟨#[115,117,99,99]⟩) O) (Br O (Aq O (BC O O (Iz ⟨#[112,108,117,115]⟩) O) (Br O (Aq O (BC O O (iK 0) O) (Br O (Aq O (BC O O (iK 1) O) (Aq O (Bu (rows:=BE ([(.mk 0 0 ⟨#[]⟩ [] []),(.mk 0 1 ⟨#[]⟩ [] [])])) Bf Bx O O O O (CG (Bv _)) (E6 _)) (Aq O (BC O O (bP (.mk 3 0 ⟨#[112,108,117,115]⟩ [] []) ([(.mk 0 0 ⟨#[]⟩ [] []),(.mk 0 1 ⟨#[]⟩ [] [])]) (by simp[DY])) O) ?_)))))))))))))))));refine Aq O (Bu (rows:=BE ([(apply (.mk 3 0 ⟨#[112,108,117,115]⟩ [] []) ([(.mk 0 0 ⟨#[]⟩ [] []),(.mk 0 1 ⟨#[]⟩ [] [])]))])) Bf Bx O O O O (CG (Bv _)) (E6 _)) (Aq O (BC O O (bP (.mk 3 0 ⟨#[115,117,99,99]⟩ [] []) ([(apply (.mk 3 0 ⟨#[112,108,117,115]⟩ [] []) ([(.mk 0 0 ⟨#[]⟩ [] []),(.mk 0 1 ⟨#[]⟩ [] [])]))]) (by simp[DY])) O) ?_);generalize hz:apply (.mk 3 0 ⟨#[115,117,99,99]⟩ [] []) ([(apply (.mk 3 0 ⟨#[112,108,117,115]⟩ [] []) ([(.mk 0 0 ⟨#[]⟩ [] []),(.mk 0 1 ⟨#[]⟩ [] [])]))])=z;obtain⟨zk,zi,zn,zl,zs⟩:=z;refine Ax Ay 2 [] O (Aq O (Bl Jt bE O O O O O) (Aq O (CO FG Wx O) (BF O (A7 Wx O) fun b5=>Ar Ay 1 [0,0] O (As (Bt (fun k=>false) Dn (BR Ay 4 [1,2,2,2] O (BG O (fun _=>BC O O (Z2 (.mk 3 0 ⟨#[78,97,116]⟩ [] []:Tm) (.mk 3 0 ⟨#[78,97,116]⟩ [] []:Tm) (ot _ Am) (by simp[size,BX])) O) Ap (BG O (fun _=>BC O O (Z2 (.mk 3 0 ⟨#[78,97,116]⟩ [] []:Tm) (.mk 6 0 ⟨#[]⟩ [] [(.mk 3 0 ⟨#[78,97,116]⟩ [] []:Tm),Yp (.mk 3 0 ⟨#[78,97,116]⟩ [] []:Tm)]) wT Am) O) Ap (BR Ay 2 [0] O (BG O (fun _=>Bl HV dR O O O O O) Ap (BG O (fun _=>CO C5 Jw O) Ap (BG O (fun _=>Bl IF Jw O O O O O) Ap (Bk Ay 1 [] O (A1 (⟨O,_,_,⟨_,_,O,O,O⟩,(List.nil_sublist _),?_⟩)))))))))))))))
 all_goals exact⟨by show (.p (.lst (List.map Bi ([(B5.mk 3 ⟨#[78,97,116]⟩ 0 (.mk 2 0 ⟨#[]⟩ ([(CS.mk 0 [])]) []:Tm) (.mk 0 0 ⟨#[]⟩ [] []:Tm) 0 ([(IS.mk ⟨#[122,101,114,111]⟩ (.mk 3 0 ⟨#[78,97,116]⟩ [] []:Tm)),(IS.mk ⟨#[115,117,99,99]⟩ (.mk 6 0 ⟨#[]⟩ [] ([(.mk 3 0 ⟨#[78,97,116]⟩ [] []:Tm),Yp (.mk 3 0 ⟨#[78,97,116]⟩ [] []:Tm)]):Tm))]) (kF.mk 0 (.mk 3 0 ⟨#[78,97,116]⟩ [] []:Tm) ([(.mk 3 0 ⟨#[78,97,116]⟩ [] []:Tm),(.mk 3 0 ⟨#[78,97,116]⟩ [] []:Tm)])) []),(B5.mk 4 ⟨#[]⟩ 0 (.mk 0 0 ⟨#[]⟩ [] []:Tm) (.mk 0 0 ⟨#[]⟩ [] []:Tm) 0 [] (kF.mk 0 (.mk 0 0 ⟨#[]⟩ [] []:Tm) []) ([(Hp.mk ⟨#[112,108,117,115]⟩ (.mk 6 0 ⟨#[]⟩ [] ([(.mk 3 0 ⟨#[78,97,116]⟩ [] []:Tm),Yp (.mk 6 0 ⟨#[]⟩ [] [(.mk 3 0 ⟨#[78,97,116]⟩ [] []:Tm),Yp (.mk 3 0 ⟨#[78,97,116]⟩ [] []:Tm)])]):Tm) 2 (ES.mk 1 (.mk 0 0 ⟨#[]⟩ [] []:Tm) 0 ([(GC.mk ⟨#[122,101,114,111]⟩ false (ES.mk 0 (.mk 0 0 ⟨#[]⟩ [] []:Tm) 0 [])),(GC.mk ⟨#[115,117,99,99]⟩ false (ES.mk 0 (.mk zk zi zn zl zs:Tm) 0 []))])))]))]))):AV)=_;rw[←hz];rfl,rfl⟩
end Go.Proofs.YtboammbpdaoojaaGreat
namespace Go.Eu
open Go.Abs
theorem IG {t:Tm}(h:okB t=true) (hs:size t<1000000):We t:=⟨(B2.1 h).nd,hs⟩
theorem cU:Ox Z5 where
 nm:=by decide
 ty:=IG rfl Am
 vl:=IG rfl Am
 cl:=by decide
 cs:=by
  intro c hc;simp only[Z5,List.mem_cons,List.not_mem_nil,or_false] at hc;rcases hc with rfl | rfl
  ·exact⟨by decide,IG rfl Am⟩
  exact⟨by decide,IG rfl Am⟩
 rt:=IG rfl Am
 rl:=by decide
 rs:=by
  intro c hc;simp only[Z5,List.mem_cons,List.not_mem_nil,or_false] at hc;rcases hc with rfl | rfl<;>exact IG rfl Am
 fl:=by decide
 fs:=by intro c hc;cases hc
theorem di:Hu Rf:=⟨IG rfl Am,by decide,⟨by decide,IG rfl Am,by decide,trivial⟩,⟨by decide,IG rfl Am,by decide,trivial⟩,trivial⟩
theorem Xx:Ox SJ where
 nm:=by decide
 ty:=IG rfl Am
 vl:=IG rfl Am
 cl:=by decide
 cs:=by intro c hc;cases hc
 rt:=IG rfl Am
 rl:=by decide
 rs:=by intro c hc;cases hc
 fl:=by decide
 fs:=by
  intro c hc;simp only[SJ,List.mem_cons,List.not_mem_nil,or_false] at hc;subst hc;exact⟨by decide,IG rfl Am,di⟩
theorem Kx:Gi Dh:=by
 have h0:∀d∈Dh,d=Z5∨d=SJ:=fun d hd=>by simpa [Dh] using hd
 refine⟨⟨⟨by decide,fun d hd=>?_⟩,fun d hd=>?_⟩,fun d hd=>?_,fun d hd=>?_,fun d hd=>?_⟩
 ·rcases h0 d hd with rfl | rfl
  ·exact cU
  exact Xx
 ·rcases h0 d hd with rfl | rfl
  ·exact⟨cU,by decide,rfl,by intro t ht;simp only[Z5,List.mem_cons,List.not_mem_nil,or_false] at ht;rcases ht with rfl | rfl<;>rfl,by intro f hf;cases hf⟩
  refine⟨Xx,by decide,rfl,(by intro t ht;cases ht),?_⟩;intro f hf;simp only[SJ,List.mem_cons,List.not_mem_nil,or_false] at hf;subst hf;exact⟨by decide,by decide,rfl,⟨rfl,trivial⟩,⟨rfl,trivial⟩,trivial⟩
 ·rcases h0 d hd with rfl | rfl<;>decide
 ·rcases h0 d hd with rfl | rfl
  ·intro t ht;simp only[Z5,List.mem_cons,List.not_mem_nil,or_false] at ht;rcases ht with rfl | rfl<;>decide
  intro t ht;cases ht
 rcases h0 d hd with rfl | rfl
 ·intro f hf;cases hf
 intro f hf;simp only[SJ,List.mem_cons,List.not_mem_nil,or_false] at hf;subst hf;decide
def ap (f x:Tm):Tm:= .mk 4 0 ⟨#[]⟩ [] [f,x]
def wq:Tm:= .mk 5 0 ⟨#[]⟩ [] [PB K6,vT 0]
def vj:Tm:=ap (ap (PB QS) (ap (PB UM) (vT 3))) (vT 4)
def L1:Tm:=ap (PB UM) (ap (ap (PB QS) (vT 3)) (vT 4))
def Ta:Tm:=ap (ap (PB QS) (ap wq (vT 3))) (vT 4)
def OU:Tm:=ap (ap (PB QS) (vT 3)) (vT 4)
def uR:Tm:= .mk 9 0 ⟨#[]⟩ [] [ap wq (vT 2)]
def PT:Tm:= .mk 9 0 ⟨#[]⟩ [] [vT 2]
def NW:Tm:=ap (.mk 12 0 ⟨#[]⟩ [] []) (vT 0)
def qD:Tm:=ap (ap (PB QS) NW) (vT 1)
def p8:Tm:=ap (PB UM) NW
theorem ql:DK Dh Bp 20 20000 vj= .ok (L1,19999):=rfl
theorem sl:DK Dh Bp 20 20000 Ta= .ok (Ta,19999):=rfl
theorem oO:Dl Dh Bp 20 20000 Ta= .ok (some OU,19999):=rfl
theorem r8:DK Dh Bp 20 20000 uR= .ok (PT,19999):=rfl
theorem p5 (n:Nat) (s:Int):Ii Dh Bp (n+2) s NW= .ok (some 0,s):=by
 rw[Va,show DK Dh Bp (n+1) s NW= .ok (NW,s) from rfl];show Jv Dh Bp (n+1) (NW,s)=_;rw[UF rfl];rfl
theorem ta:Ii Dh Bp 20 20000 qD= .ok (some 0,20000):=by
 rw[Va,show DK Dh Bp 19 20000 qD= .ok (qD,20000) from rfl];show Jv Dh Bp 19 (qD,20000)=_;rw[XJ (f:=⟨QS,Zv (PB K6) (Zv (PB K6) (PB K6)),2,Rf⟩) (d:=SJ) rfl rfl rfl rfl rfl rfl Am];show (Dp Dh Bp (DK Dh Bp 19) 19 Rf [NW,vT 1] Bh 20000).bind (X1 Dh Bp 19)=_;rw[show Dp Dh Bp (DK Dh Bp 19) 19 Rf [NW,vT 1] Bh 20000= .ok ((none,NW),20000) from rfl];show X1 Dh Bp 19 ((none,NW),20000)=_;rw[bp rfl rfl (IC (by intro h;cases h))];exact p5 17 20000
theorem te:Ii Dh Bp 20 20000 p8= .ok (none,20000):=by
 rw[Va,show DK Dh Bp 19 20000 p8= .ok (p8,20000) from rfl];show Jv Dh Bp 19 (p8,20000)=_;rw[S7 rfl rfl rfl Am Am]
theorem bD:Nd L1∧Nd Ta∧Nd OU∧Nd PT:=⟨(B2.1 (show okB L1=true from rfl)).nd,(B2.1 (show okB Ta=true from rfl)).nd,(B2.1 (show okB OU=true from rfl)).nd,(B2.1 (show okB PT=true from rfl)).nd⟩
end Go.Eu
namespace Go.Proofs.YtboammbpdaoojaaGreat
open Go.Abs Go.Eu
theorem UT (f x:Tm):ET Tryz.prog 34 [TV f,qS [x]] (TV (.mk 4 0 ⟨#[]⟩ [] [f,x])):=aS f [x] (by simp[DY])
theorem YT (f x y:Tm):ET Tryz.prog 34 [TV f,qS [x,y]] (TV (.mk 4 0 ⟨#[]⟩ [] [(.mk 4 0 ⟨#[]⟩ [] [f,x]:Tm),y])):=aS f [x,y] (by simp[DY])
theorem tf:ET Tryz.prog 12 [.p (.lst (List.map Bi Dh)),TV vj] (.tup [TV L1,.p (I 0)]):=by
 have h:=RI Dh 20 vj Kx (by rw[ql];simp);rw[ql] at h;exact h
theorem sq:ET Tryz.prog 12 [.p (.lst (List.map Bi Dh)),TV Ta] (.tup [TV Ta,.p (I 0)]):=by
 have h:=RI Dh 20 Ta Kx (by rw[sl];simp);rw[sl] at h;exact h
theorem rX:ET Tryz.prog 16 [.p (.lst (List.map Bi Dh)),TV Ta] (.tup [TV OU,.p (.bool true),.p (I 0)]):=by
 have h:=bG Dh 20 Ta Kx (by rw[oO];simp) (by rw[oO];intro q c e;cases e;rfl);rw[oO] at h;exact h
theorem tX:ET Tryz.prog 12 [.p (.lst (List.map Bi Dh)),TV uR] (.tup [TV PT,.p (I 0)]):=by
 have h:=RI Dh 20 uR Kx (by rw[r8];simp);rw[r8] at h;exact h
theorem rP:ET Tryz.prog 18 [.p (.lst (List.map Bi Dh)),TV qD] (.tup [.p (I 0),.p (.bool true),.p (I 0)]):=by
 have h:=js Dh 20 qD Kx (by rw[ta];simp);rw[ta] at h;exact h
theorem rZ:ET Tryz.prog 18 [.p (.lst (List.map Bi Dh)),TV p8] (.tup [.p (I 0),.p (.bool false),.p (I 0)]):=by
 have h:=js Dh 20 p8 Kx (by rw[te];simp);rw[te] at h;exact h
theorem lO:ET Tryz.prog 15 [TV L1,TV L1] (.p (.bool true)):=by
 have h:=Pn 1000 L1 L1 Am bD.1;rw[Gs rfl] at h;exact h
theorem l8:ET Tryz.prog 15 [TV Ta,TV Ta] (.p (.bool true)):=by
 have h:=Pn 1000 Ta Ta Am bD.2.1;rw[Gs rfl] at h;exact h
theorem kV:ET Tryz.prog 15 [TV OU,TV OU] (.p (.bool true)):=by
 have h:=Pn 1000 OU OU Am bD.2.2.1;rw[Gs rfl] at h;exact h
theorem mY:ET Tryz.prog 15 [TV PT,TV PT] (.p (.bool true)):=by
 have h:=Pn 1000 PT PT Am bD.2.2.2;rw[Gs rfl] at h;exact h
set_option maxHeartbeats 4000000 in
theorem Jj:ET Tryz.prog 11 [] (.p (.bool true)):=by
 refine A5 Tryz.func11 O vB (n:=188) O O (As (HD (M:=⟨188,mk [],[],[]⟩) (FF Ap (List.Sublist.refl _)) (A3 (Ar Ay 1 [] O (As (HD (M:=⟨188,mk [],[],[]⟩) (FF Ap (List.Sublist.refl _)) (A3 (Ar Ay 1 [] O (As (HD (M:=⟨188,mk [(1,.p (.fn 33))],[],[]⟩) (FF ⟨O,Ap⟩ (List.Sublist.refl _)) (A3 (Ar Ay 1 [] O (As (HD (M:=⟨188,mk [(1,.p (.fn 33)),(2,.p (.fn 34))],[],[]⟩) (FF ⟨O,O,Ap⟩ (List.Sublist.refl _)) (A3 (Aq O (BC O O (Iz ⟨#[78,97,116]⟩) O) (Br O (Aq O (BC O O (Kv 0) O) (Aq O (Bu (rows:=BE ([(.mk 3 0 ⟨#[78,97,116]⟩ [] []),(.mk 0 0 ⟨#[]⟩ [] [])])) Bf Bx O O O O (CG (Bv _)) (E6 _)) (Aq O (CO HJ Bx O) (BF O (A7 Bx O) fun b3=>Ar Ay 1 [0,0] O ?_)))))))))))))))))))));refine As (HD (M:=⟨188,mk [(1,.p (.fn 33)),(2,.p (.fn 34)),(3,.ptr b3 0)],[.box b3 [.p (I 5),.p (I 0),.p (.str ⟨#[]⟩),.p (.nils),.p (.lst (BE ([(.mk 3 0 ⟨#[78,97,116]⟩ [] []),(.mk 0 0 ⟨#[]⟩ [] [])])))]],[]⟩) (FF ⟨O,O,O,Ap⟩ (List.Sublist.refl _)) (A3 (Aq O (BC O O (me ) O) (Ar Ay 1 [] O (As (HD (M:=⟨188,mk [(1,.p (.fn 33)),(2,.p (.fn 34)),(3,.ptr b3 0),(4,.p (.lst (List.map Bi Dh)))],[.box b3 [.p (I 5),.p (I 0),.p (.str ⟨#[]⟩),.p (.nils),.p (.lst (BE ([(.mk 3 0 ⟨#[78,97,116]⟩ [] []),(.mk 0 0 ⟨#[]⟩ [] [])])))]],[]⟩) (FF ⟨O,O,O,O,Ap⟩ (List.Sublist.refl _)) (A3 (Ax Ay 2 [] O (Aq O (BC O O (Iz ⟨#[112,108,117,115]⟩) O) (Br O (Aq O (BC O O (Iz ⟨#[115,117,99,99]⟩) O) (Br O (Aq O (BC O O (Kv 3) O) ?_)))))))))))));refine Aq O (Bu (rows:=BE ([(.mk 0 3 ⟨#[]⟩ [] [])])) Bf Bx O O O O (CG (Bv _)) (E6 _)) (Aq O (BC O O (UT (.mk 3 0 ⟨#[115,117,99,99]⟩ [] []) (.mk 0 3 ⟨#[]⟩ [] []:Tm)) O) (Br O (Aq O (BC O O (Kv 4) O) (Aq O (Bu (rows:=BE ([(.mk 4 0 ⟨#[]⟩ [] [(.mk 3 0 ⟨#[115,117,99,99]⟩ [] []),(.mk 0 3 ⟨#[]⟩ [] []:Tm)]),(.mk 0 4 ⟨#[]⟩ [] [])])) Bf Bx O O O O (CG (Bv _)) (E6 _)) (Aq O (BC O O (YT (.mk 3 0 ⟨#[112,108,117,115]⟩ [] []) (.mk 4 0 ⟨#[]⟩ [] [(.mk 3 0 ⟨#[115,117,99,99]⟩ [] []:Tm),(.mk 0 3 ⟨#[]⟩ [] []:Tm)]:Tm) (.mk 0 4 ⟨#[]⟩ [] []:Tm)) O) (Aq O (BC O O (tf ) O) (Ax Ay 3 [] O (BF O (A7 Bx O) fun b5=>Ar Ay 2 [0,1] O (As ?_)))))))))
 refine HD (M:=⟨188,mk [(1,.p (.fn 33)),(2,.p (.fn 34)),(3,.ptr b3 0),(4,.p (.lst (List.map Bi Dh))),(5,.ptr b5 0),(6,.p (I 0))],[.box b5 ((BP L1).map .p),.box b3 [.p (I 5),.p (I 0),.p (.str ⟨#[]⟩),.p (.nils),.p (.lst (BE ([(.mk 3 0 ⟨#[78,97,116]⟩ [] []),(.mk 0 0 ⟨#[]⟩ [] [])])))]],[]⟩) (FF ⟨O,O,O,O,O,O,Ap⟩ (List.Sublist.refl _)) ?_;refine V4 [.val (.p (.fn 34)),.val (.agg ((BP (.mk 3 0 ⟨#[112,108,117,115]⟩ [] [])).map .p)),.val (.p (.fn 34)),.val (.agg [.p (I 5),.p (I 0),.p (.str ⟨#[]⟩),.p (.nils),.p (.lst (BE ([(.mk 3 0 ⟨#[78,97,116]⟩ [] []),(.mk 0 0 ⟨#[]⟩ [] [])])))]),.val (.p (.fn 33)),.val (.agg ((BP (.mk 0 3 ⟨#[]⟩ [] [])).map .p)),.val (.p (.lst (BE ([(.mk 0 3 ⟨#[]⟩ [] [])])))),.val (.agg ((BP (.mk 4 0 ⟨#[]⟩ [] [(.mk 5 0 ⟨#[]⟩ [] ([(.mk 3 0 ⟨#[78,97,116]⟩ [] []),(.mk 0 0 ⟨#[]⟩ [] [])]):Tm),(.mk 0 3 ⟨#[]⟩ [] []:Tm)])).map .p)),.val (.p (.fn 33)),.val (.agg ((BP (.mk 0 4 ⟨#[]⟩ [] [])).map .p)),.val (.p (.lst (BE ([(.mk 4 0 ⟨#[]⟩ [] [(.mk 5 0 ⟨#[]⟩ [] ([(.mk 3 0 ⟨#[78,97,116]⟩ [] []),(.mk 0 0 ⟨#[]⟩ [] [])]):Tm),(.mk 0 3 ⟨#[]⟩ [] []:Tm)]),(.mk 0 4 ⟨#[]⟩ [] [])])))),.val (.agg ((BP (.mk 4 0 ⟨#[]⟩ [] [(.mk 4 0 ⟨#[]⟩ [] [(.mk 3 0 ⟨#[112,108,117,115]⟩ [] []),(.mk 4 0 ⟨#[]⟩ [] [(.mk 5 0 ⟨#[]⟩ [] [(.mk 3 0 ⟨#[78,97,116]⟩ [] []:Tm),(.mk 0 0 ⟨#[]⟩ [] []:Tm)]:Tm),(.mk 0 3 ⟨#[]⟩ [] []:Tm)]:Tm)]:Tm),(.mk 0 4 ⟨#[]⟩ [] []:Tm)])).map .p)),.new [.p (I 0),.p (I 0),.p (.str ⟨#[]⟩),.p (.nils),.p (.nils)]] Dn O Aj Aj ?_;refine C6 O (fun Bs=>Ba O) (C6 O (fun Bs=>BC O O (Iz ⟨#[112,108,117,115]⟩) O) (C6 O (fun Bs=>Ba O) (C6 O (fun Bs=>BU (i:=Bs.length+1) BZ O (CX O) O) (C6 O (fun Bs=>Ba O) (C6 O (fun Bs=>BC O O (Kv 3) O) (C6 O (fun Bs=>Bu (rows:=BE ([(.mk 0 3 ⟨#[]⟩ [] [])])) Bf Bx O O O O (CG (Bv _)) (E6 _)) (C6 O (fun Bs=>Gz O O (UT (.mk 5 0 ⟨#[]⟩ [] ([(.mk 3 0 ⟨#[78,97,116]⟩ [] []),(.mk 0 0 ⟨#[]⟩ [] [])]):Tm) (.mk 0 3 ⟨#[]⟩ [] []:Tm)) (aw (E1 O) (aw (we O) (E0)))) (C6 O (fun Bs=>Ba O) (C6 O (fun Bs=>BC O O (Kv 4) O) ?_)))))))))
 refine C6 O (fun Bs=>Bu (rows:=BE ([(.mk 4 0 ⟨#[]⟩ [] [(.mk 5 0 ⟨#[]⟩ [] ([(.mk 3 0 ⟨#[78,97,116]⟩ [] []),(.mk 0 0 ⟨#[]⟩ [] [])]):Tm),(.mk 0 3 ⟨#[]⟩ [] []:Tm)]),(.mk 0 4 ⟨#[]⟩ [] [])])) Bf Bx O O O O (CG (Bv _)) (E6 _)) (C6 O (fun Bs=>BC O O (YT (.mk 3 0 ⟨#[112,108,117,115]⟩ [] []) (.mk 4 0 ⟨#[]⟩ [] [(.mk 5 0 ⟨#[]⟩ [] [(.mk 3 0 ⟨#[78,97,116]⟩ [] []:Tm),(.mk 0 0 ⟨#[]⟩ [] []:Tm)]:Tm),(.mk 0 3 ⟨#[]⟩ [] []:Tm)]:Tm) (.mk 0 4 ⟨#[]⟩ [] []:Tm)) O) (TM O (fun Bs=>A7 Bx O) fun b7=>Hk ?_))
 change AL _ _ _ 13 ⟨188,_,[.box b7 [.p (I 0),.p (I 0),.p (.str ⟨#[]⟩),.p (.nils),.p (.nils)],.box b5 ((BP L1).map .p),.box b3 [.p (I 5),.p (I 0),.p (.str ⟨#[]⟩),.p (.nils),.p (.lst (BE ([(.mk 3 0 ⟨#[78,97,116]⟩ [] []),(.mk 0 0 ⟨#[]⟩ [] [])])))]],[]⟩ _
 refine Ar Ay 1 [0,1] O (As (HD (M:=⟨188,mk [(1,.p (.fn 33)),(2,.p (.fn 34)),(3,.ptr b3 0),(4,.p (.lst (List.map Bi Dh))),(5,.ptr b5 0),(6,.p (I 0)),(7,.ptr b7 0)],[.box b7 ((BP (.mk 4 0 ⟨#[]⟩ [] [(.mk 4 0 ⟨#[]⟩ [] [(.mk 3 0 ⟨#[112,108,117,115]⟩ [] []),(.mk 4 0 ⟨#[]⟩ [] [(.mk 5 0 ⟨#[]⟩ [] [(.mk 3 0 ⟨#[78,97,116]⟩ [] []:Tm),(.mk 0 0 ⟨#[]⟩ [] []:Tm)]:Tm),(.mk 0 3 ⟨#[]⟩ [] []:Tm)]:Tm)]:Tm),(.mk 0 4 ⟨#[]⟩ [] []:Tm)])).map .p),.box b5 ((BP L1).map .p),.box b3 [.p (I 5),.p (I 0),.p (.str ⟨#[]⟩),.p (.nils),.p (.lst (BE ([(.mk 3 0 ⟨#[78,97,116]⟩ [] []),(.mk 0 0 ⟨#[]⟩ [] [])])))]],[]⟩) (FF ⟨O,O,O,O,O,O,O,Ap⟩ (List.Sublist.refl _)) (A3 (Ax Ay 2 [0] O (Aq O (BC O O (sq ) O) (Ax Ay 3 [] O (BF O (A7 Bx O) fun b8=>Ar Ay 2 [0,1] O (As ?_))))))));refine HD (M:=⟨188,mk [(1,.p (.fn 33)),(2,.p (.fn 34)),(3,.ptr b3 0),(4,.p (.lst (List.map Bi Dh))),(5,.ptr b5 0),(6,.p (I 0)),(7,.ptr b7 0),(8,.ptr b8 0),(9,.p (I 0))],[.box b8 ((BP Ta).map .p),.box b7 ((BP (.mk 4 0 ⟨#[]⟩ [] [(.mk 4 0 ⟨#[]⟩ [] [(.mk 3 0 ⟨#[112,108,117,115]⟩ [] []),(.mk 4 0 ⟨#[]⟩ [] [(.mk 5 0 ⟨#[]⟩ [] [(.mk 3 0 ⟨#[78,97,116]⟩ [] []:Tm),(.mk 0 0 ⟨#[]⟩ [] []:Tm)]:Tm),(.mk 0 3 ⟨#[]⟩ [] []:Tm)]:Tm)]:Tm),(.mk 0 4 ⟨#[]⟩ [] []:Tm)])).map .p),.box b5 ((BP L1).map .p),.box b3 [.p (I 5),.p (I 0),.p (.str ⟨#[]⟩),.p (.nils),.p (.lst (BE ([(.mk 3 0 ⟨#[78,97,116]⟩ [] []),(.mk 0 0 ⟨#[]⟩ [] [])])))]],[]⟩) (FF ⟨O,O,O,O,O,O,O,O,O,Ap⟩ (List.Sublist.refl _)) (A3 (Ax Ay 2 [1] O (Aq O (BC O O (rX ) O) (Ax Ay 4 [] O (BF O (A7 Bx O) fun b10=>?_)))))
 refine Ar Ay 3 [0,1] O (As (HD (M:=⟨188,mk [(1,.p (.fn 33)),(2,.p (.fn 34)),(3,.ptr b3 0),(4,.p (.lst (List.map Bi Dh))),(5,.ptr b5 0),(6,.p (I 0)),(7,.ptr b7 0),(8,.ptr b8 0),(9,.p (I 0)),(10,.ptr b10 0),(11,.p (.bool true)),(12,.p (I 0))],[.box b10 ((BP OU).map .p),.box b8 ((BP Ta).map .p),.box b7 ((BP (.mk 4 0 ⟨#[]⟩ [] [(.mk 4 0 ⟨#[]⟩ [] [(.mk 3 0 ⟨#[112,108,117,115]⟩ [] []),(.mk 4 0 ⟨#[]⟩ [] [(.mk 5 0 ⟨#[]⟩ [] [(.mk 3 0 ⟨#[78,97,116]⟩ [] []:Tm),(.mk 0 0 ⟨#[]⟩ [] []:Tm)]:Tm),(.mk 0 3 ⟨#[]⟩ [] []:Tm)]:Tm)]:Tm),(.mk 0 4 ⟨#[]⟩ [] []:Tm)])).map .p),.box b5 ((BP L1).map .p),.box b3 [.p (I 5),.p (I 0),.p (.str ⟨#[]⟩),.p (.nils),.p (.lst (BE ([(.mk 3 0 ⟨#[78,97,116]⟩ [] []),(.mk 0 0 ⟨#[]⟩ [] [])])))]],[]⟩) (FF ⟨O,O,O,O,O,O,O,O,O,O,O,O,Ap⟩ (List.Sublist.refl _)) ?_));refine Bt (fun k=>Nat.beq k 13) Dn (BR Ay 4 [4] O (BG O (fun _=>BC O O (Kv 2) O) Ap (BG O (fun _=>Bu (rows:=BE ([(.mk 0 2 ⟨#[]⟩ [] [])])) Bf Bx O O O O (CG (Bv _)) (E6 _)) Ap (BG O (fun _=>Gz O O (UT (.mk 5 0 ⟨#[]⟩ [] ([(.mk 3 0 ⟨#[78,97,116]⟩ [] []),(.mk 0 0 ⟨#[]⟩ [] [])]):Tm) (.mk 0 2 ⟨#[]⟩ [] []:Tm)) (aw (E1 O) (aw (we O) (E0)))) Ap (BG O (fun _=>Bu (rows:=BE ([(.mk 4 0 ⟨#[]⟩ [] [(.mk 5 0 ⟨#[]⟩ [] ([(.mk 3 0 ⟨#[78,97,116]⟩ [] []),(.mk 0 0 ⟨#[]⟩ [] [])]):Tm),(.mk 0 2 ⟨#[]⟩ [] []:Tm)])])) Bf Bx O O O O (CG (Bv _)) (E6 _)) Ap (BG O (fun _=>CO HJ Bx O) Ap (BG O (fun _=>Gz O O (tX ) (aw (we O) (aw (E1 O) (E0)))) Ap (BR Ay 3 [] O (HC [] O O (A7 Bx O) Aj fun b13=>⟨AB,Ap,?_⟩)))))))));refine Bk Ay 2 [0,1] O (As ?_)
 refine HD (M:=⟨188,mk [(1,.p (.fn 33)),(2,.p (.fn 34)),(4,.p (.lst (List.map Bi Dh))),(5,.ptr b5 0),(6,.p (I 0)),(7,.ptr b7 0),(8,.ptr b8 0),(9,.p (I 0)),(10,.ptr b10 0),(11,.p (.bool true)),(12,.p (I 0)),(13,.ptr b13 0),(14,.p (I 0))],[.box b13 ((BP PT).map .p),.box b10 ((BP OU).map .p),.box b8 ((BP Ta).map .p),.box b7 ((BP (.mk 4 0 ⟨#[]⟩ [] [(.mk 4 0 ⟨#[]⟩ [] [(.mk 3 0 ⟨#[112,108,117,115]⟩ [] []),(.mk 4 0 ⟨#[]⟩ [] [(.mk 5 0 ⟨#[]⟩ [] [(.mk 3 0 ⟨#[78,97,116]⟩ [] []:Tm),(.mk 0 0 ⟨#[]⟩ [] []:Tm)]:Tm),(.mk 0 3 ⟨#[]⟩ [] []:Tm)]:Tm)]:Tm),(.mk 0 4 ⟨#[]⟩ [] []:Tm)])).map .p),.box b5 ((BP L1).map .p),.box b3 [.p (I 5),.p (I 0),.p (.str ⟨#[]⟩),.p (.nils),.p (.lst (BE ([(.mk 3 0 ⟨#[78,97,116]⟩ [] []),(.mk 0 0 ⟨#[]⟩ [] [])])))]],[]⟩) (FF ⟨O,O,O,O,O,O,O,O,O,O,O,O,O,Ap⟩ (List.Sublist.refl _)) ?_;refine A3 (Ax Ay 3 [] O (Aq O (BC O O (Kv 0) O) (Aq O (Bu (rows:=BE ([(.mk 0 0 ⟨#[]⟩ [] [])])) Bf Bx O O O O (CG (Bv _)) (E6 _)) (Aq O (Gz O O (UT (.mk 12 0 ⟨#[]⟩ [] []:Tm) (.mk 0 0 ⟨#[]⟩ [] []:Tm)) (aw (E1 O) (aw (we O) (E0)))) (BF O (A7 Bx O) fun b15=>Ar Ay 1 [0,1] O (As ?_))))));refine HD (M:=⟨188,mk [(1,.p (.fn 33)),(2,.p (.fn 34)),(4,.p (.lst (List.map Bi Dh))),(5,.ptr b5 0),(6,.p (I 0)),(7,.ptr b7 0),(8,.ptr b8 0),(9,.p (I 0)),(10,.ptr b10 0),(11,.p (.bool true)),(12,.p (I 0)),(13,.ptr b13 0),(14,.p (I 0)),(15,.ptr b15 0)],[.box b15 ((BP (.mk 4 0 ⟨#[]⟩ [] [(.mk 12 0 ⟨#[]⟩ [] []:Tm),(.mk 0 0 ⟨#[]⟩ [] []:Tm)])).map .p),.box b13 ((BP PT).map .p),.box b10 ((BP OU).map .p),.box b8 ((BP Ta).map .p),.box b7 ((BP (.mk 4 0 ⟨#[]⟩ [] [(.mk 4 0 ⟨#[]⟩ [] [(.mk 3 0 ⟨#[112,108,117,115]⟩ [] []),(.mk 4 0 ⟨#[]⟩ [] [(.mk 5 0 ⟨#[]⟩ [] [(.mk 3 0 ⟨#[78,97,116]⟩ [] []:Tm),(.mk 0 0 ⟨#[]⟩ [] []:Tm)]:Tm),(.mk 0 3 ⟨#[]⟩ [] []:Tm)]:Tm)]:Tm),(.mk 0 4 ⟨#[]⟩ [] []:Tm)])).map .p),.box b5 ((BP L1).map .p),.box b3 [.p (I 5),.p (I 0),.p (.str ⟨#[]⟩),.p (.nils),.p (.lst (BE ([(.mk 3 0 ⟨#[78,97,116]⟩ [] []),(.mk 0 0 ⟨#[]⟩ [] [])])))]],[]⟩) (FF ⟨O,O,O,O,O,O,O,O,O,O,O,O,O,O,Ap⟩ (List.Sublist.refl _)) ?_
 refine Bt (fun k=>false) Dn (BR Ay 2 [] O (BG O (fun _=>BC O O (Iz ⟨#[112,108,117,115]⟩) O) Ap (BR Ay 2 [0] O (BG O (fun _=>BC O O (Kv 1) O) Ap (BG O (fun _=>Bu (rows:=BE ([(.mk 4 0 ⟨#[]⟩ [] [(.mk 12 0 ⟨#[]⟩ [] []:Tm),(.mk 0 0 ⟨#[]⟩ [] []:Tm)]),(.mk 0 1 ⟨#[]⟩ [] [])])) Bf Bx O O O O (CG (Bv _)) (E6 _)) Ap (BG O (fun _=>BC O O (YT (.mk 3 0 ⟨#[112,108,117,115]⟩ [] []) (.mk 4 0 ⟨#[]⟩ [] [(.mk 12 0 ⟨#[]⟩ [] []:Tm),(.mk 0 0 ⟨#[]⟩ [] []:Tm)]:Tm) (.mk 0 1 ⟨#[]⟩ [] []:Tm)) O) Ap (BG O (fun _=>BC O O (rP ) O) Ap (Bk Ay 7 [] O (As ?_)))))))));refine HD (M:=⟨188,mk [(1,.p (.fn 33)),(2,.p (.fn 34)),(4,.p (.lst (List.map Bi Dh))),(5,.ptr b5 0),(6,.p (I 0)),(7,.ptr b7 0),(8,.ptr b8 0),(9,.p (I 0)),(10,.ptr b10 0),(11,.p (.bool true)),(12,.p (I 0)),(13,.ptr b13 0),(14,.p (I 0)),(15,.ptr b15 0),(16,.p (I 0)),(17,.p (.bool true)),(18,.p (I 0))],[.box b15 ((BP (.mk 4 0 ⟨#[]⟩ [] [(.mk 12 0 ⟨#[]⟩ [] []:Tm),(.mk 0 0 ⟨#[]⟩ [] []:Tm)])).map .p),.box b13 ((BP PT).map .p),.box b10 ((BP OU).map .p),.box b8 ((BP Ta).map .p),.box b7 ((BP (.mk 4 0 ⟨#[]⟩ [] [(.mk 4 0 ⟨#[]⟩ [] [(.mk 3 0 ⟨#[112,108,117,115]⟩ [] []),(.mk 4 0 ⟨#[]⟩ [] [(.mk 5 0 ⟨#[]⟩ [] [(.mk 3 0 ⟨#[78,97,116]⟩ [] []:Tm),(.mk 0 0 ⟨#[]⟩ [] []:Tm)]:Tm),(.mk 0 3 ⟨#[]⟩ [] []:Tm)]:Tm)]:Tm),(.mk 0 4 ⟨#[]⟩ [] []:Tm)])).map .p),.box b5 ((BP L1).map .p),.box b3 [.p (I 5),.p (I 0),.p (.str ⟨#[]⟩),.p (.nils),.p (.lst (BE ([(.mk 3 0 ⟨#[78,97,116]⟩ [] []),(.mk 0 0 ⟨#[]⟩ [] [])])))]],[]⟩) (FF ⟨O,O,O,O,O,O,O,O,O,O,O,O,O,O,O,O,O,Ap⟩ (List.Sublist.refl _)) ?_;refine Bt (fun k=>false) Dn (BR Ay 2 [] O (BG O (fun _=>BC O O (Iz ⟨#[115,117,99,99]⟩) O) Ap (BR Ay 1 [0] O (BG O (fun _=>Bu (rows:=BE ([(.mk 4 0 ⟨#[]⟩ [] [(.mk 12 0 ⟨#[]⟩ [] []:Tm),(.mk 0 0 ⟨#[]⟩ [] []:Tm)])])) Bf Bx O O O O (CG (Bv _)) (E6 _)) Ap (BG O (fun _=>BC O O (UT (.mk 3 0 ⟨#[115,117,99,99]⟩ [] []) (.mk 4 0 ⟨#[]⟩ [] [(.mk 12 0 ⟨#[]⟩ [] []:Tm),(.mk 0 0 ⟨#[]⟩ [] []:Tm)]:Tm)) O) Ap (BG O (fun _=>BC O O (rZ ) O) Ap (Bk Ay 7 [] O (As (As ?_)))))))))
 refine HD (M:=⟨188,mk [(1,.p (.fn 33)),(2,.p (.fn 34)),(5,.ptr b5 0),(6,.p (I 0)),(7,.ptr b7 0),(8,.ptr b8 0),(9,.p (I 0)),(10,.ptr b10 0),(11,.p (.bool true)),(12,.p (I 0)),(13,.ptr b13 0),(14,.p (I 0)),(16,.p (I 0)),(17,.p (.bool true)),(18,.p (I 0)),(20,.p (.bool false)),(21,.p (I 0))],[.box b15 ((BP (.mk 4 0 ⟨#[]⟩ [] [(.mk 12 0 ⟨#[]⟩ [] []:Tm),(.mk 0 0 ⟨#[]⟩ [] []:Tm)])).map .p),.box b13 ((BP PT).map .p),.box b10 ((BP OU).map .p),.box b8 ((BP Ta).map .p),.box b7 ((BP (.mk 4 0 ⟨#[]⟩ [] [(.mk 4 0 ⟨#[]⟩ [] [(.mk 3 0 ⟨#[112,108,117,115]⟩ [] []),(.mk 4 0 ⟨#[]⟩ [] [(.mk 5 0 ⟨#[]⟩ [] [(.mk 3 0 ⟨#[78,97,116]⟩ [] []:Tm),(.mk 0 0 ⟨#[]⟩ [] []:Tm)]:Tm),(.mk 0 3 ⟨#[]⟩ [] []:Tm)]:Tm)]:Tm),(.mk 0 4 ⟨#[]⟩ [] []:Tm)])).map .p),.box b5 ((BP L1).map .p),.box b3 [.p (I 5),.p (I 0),.p (.str ⟨#[]⟩),.p (.nils),.p (.lst (BE ([(.mk 3 0 ⟨#[78,97,116]⟩ [] []),(.mk 0 0 ⟨#[]⟩ [] [])])))]],[]⟩) (FF ⟨O,O,O,O,O,O,O,O,O,O,O,O,O,O,O,O,O,Ap⟩ (List.Sublist.refl _)) ?_;refine A3 (Ar Ay 22 [] O ?_);refine Av O (fun c=>by cases c) (fun c=>?_);refine A2 (As ?_);refine HD (M:=⟨188,mk [(1,.p (.fn 33)),(2,.p (.fn 34)),(5,.ptr b5 0),(7,.ptr b7 0),(8,.ptr b8 0),(10,.ptr b10 0),(11,.p (.bool true)),(13,.ptr b13 0),(16,.p (I 0)),(17,.p (.bool true)),(20,.p (.bool false))],[.box b15 ((BP (.mk 4 0 ⟨#[]⟩ [] [(.mk 12 0 ⟨#[]⟩ [] []:Tm),(.mk 0 0 ⟨#[]⟩ [] []:Tm)])).map .p),.box b13 ((BP PT).map .p),.box b10 ((BP OU).map .p),.box b8 ((BP Ta).map .p),.box b7 ((BP (.mk 4 0 ⟨#[]⟩ [] [(.mk 4 0 ⟨#[]⟩ [] [(.mk 3 0 ⟨#[112,108,117,115]⟩ [] []),(.mk 4 0 ⟨#[]⟩ [] [(.mk 5 0 ⟨#[]⟩ [] [(.mk 3 0 ⟨#[78,97,116]⟩ [] []:Tm),(.mk 0 0 ⟨#[]⟩ [] []:Tm)]:Tm),(.mk 0 3 ⟨#[]⟩ [] []:Tm)]:Tm)]:Tm),(.mk 0 4 ⟨#[]⟩ [] []:Tm)])).map .p),.box b5 ((BP L1).map .p),.box b3 [.p (I 5),.p (I 0),.p (.str ⟨#[]⟩),.p (.nils),.p (.lst (BE ([(.mk 3 0 ⟨#[78,97,116]⟩ [] []),(.mk 0 0 ⟨#[]⟩ [] [])])))]],[]⟩) (FF ⟨O,O,O,O,O,O,O,O,O,O,O,Ap⟩ (List.Sublist.refl _)) ?_
 refine Bt (fun k=>false) Dn (BR Ay 2 [5] O (BG O (fun _=>BC O O (Iz ⟨#[115,117,99,99]⟩) O) Ap (BG O (fun _=>Ba O) Ap (BG O (fun _=>BC O O (Iz ⟨#[112,108,117,115]⟩) O) Ap (BG O (fun _=>Ba O) Ap (BG O (fun _=>BC O O (Kv 3) O) Ap (BG O (fun _=>Ba O) Ap (BG O (fun _=>BC O O (Kv 4) O) Ap (BG O (fun _=>Bu (rows:=BE ([(.mk 0 3 ⟨#[]⟩ [] []),(.mk 0 4 ⟨#[]⟩ [] [])])) Bf Bx O O O O (CG (Bv _)) (E6 _)) Ap (BG O (fun _=>BC O O (YT (.mk 3 0 ⟨#[112,108,117,115]⟩ [] []) (.mk 0 3 ⟨#[]⟩ [] []:Tm) (.mk 0 4 ⟨#[]⟩ [] []:Tm)) O) Ap ?_))))))))));refine BG O (fun _=>Bu (rows:=BE ([(.mk 4 0 ⟨#[]⟩ [] [(.mk 4 0 ⟨#[]⟩ [] [(.mk 3 0 ⟨#[112,108,117,115]⟩ [] []),(.mk 0 3 ⟨#[]⟩ [] []:Tm)]:Tm),(.mk 0 4 ⟨#[]⟩ [] []:Tm)])])) Bf Bx O O O O (CG (Bv _)) (E6 _)) Ap (BG O (fun _=>BC O O (UT (.mk 3 0 ⟨#[115,117,99,99]⟩ [] []) (.mk 4 0 ⟨#[]⟩ [] [(.mk 4 0 ⟨#[]⟩ [] [(.mk 3 0 ⟨#[112,108,117,115]⟩ [] []:Tm),(.mk 0 3 ⟨#[]⟩ [] []:Tm)]:Tm),(.mk 0 4 ⟨#[]⟩ [] []:Tm)]:Tm)) O) Ap (BG O (fun _=>BC O O (lO ) O) Ap (BR Ay 3 [3,4] O (Ce O (fun _=>BC O O (l8 ) O) Ap (BR Ay 7 [2] O (Ce O (fun _=>BC O O (Iz ⟨#[112,108,117,115]⟩) O) Ap (Ce O (fun _=>Ba O) Ap (Ce O (fun _=>BC O O (Kv 3) O) Ap (Ce O (fun _=>Ba O) Ap (Ce O (fun _=>BC O O (Kv 4) O) Ap ?_))))))))));refine Ce O (fun _=>Bu (rows:=BE ([(.mk 0 3 ⟨#[]⟩ [] []),(.mk 0 4 ⟨#[]⟩ [] [])])) Bf Bx O O O O (CG (Bv _)) (E6 _)) Ap (Ce O (fun _=>BC O O (YT (.mk 3 0 ⟨#[112,108,117,115]⟩ [] []) (.mk 0 3 ⟨#[]⟩ [] []:Tm) (.mk 0 4 ⟨#[]⟩ [] []:Tm)) O) Ap (Ce O (fun _=>BC O O (kV ) O) Ap (BR Ay 4 [1] O (Ce O (fun _=>BC O O (Kv 2) O) Ap (Ce O (fun _=>Bu (rows:=BE ([(.mk 0 2 ⟨#[]⟩ [] [])])) Bf Bx O O O O (CG (Bv _)) (E6 _)) Ap (Ce O (fun _=>CO HJ Bx O) Ap (Ce O (fun _=>Gz O O (mY ) (aw (we O) (aw (E1 O) (E0)))) Ap (Bk Ay 13 [] O (A1 (⟨O,_,_,⟨_,_,O,O,O⟩,(List.nil_sublist _),?_⟩))))))))))
 all_goals exact⟨rfl,rfl⟩
theorem XT:∀(n:Nat) (l:List Tm) (most:Int),BX l≤n→kX l→l.length<wide→ET Tryz.prog 29 [.p (I most),qS l] (.p (I (EU l most 0))):=by
 intro n
 induction n using Nat.strongRecOn with
 | ind n ih =>
  intro l most hs hnd hlen;simp only[wide] at hlen;refine A5 Tryz.func29 O uT (n:=29) O O (Au Ay 1 [] O (Au Ay 1 [] O (As (Aw (Br O (Aq O (Dd Bf O) (Ar Ay 1 [] O (A9 (Bc (α:=Nat×Int) (fun s=>⟨29,mk [(0,.p (I most)),(5,.p (I s.2)),(8,qS l),(9,.p (I (BE l).length)),(10,.p (I s.1))],[],[]⟩) (fun s=>l.length - s.1) (fun s=>s.1≤l.length∧EU (l.drop s.1) most s.2=EU l most 0) ((0,0)) Ao ?_ ?_)))))))))
  ·exact FF ⟨O,O,O,O,O,Ap⟩ AA
  rintro⟨i,m⟩ ⟨hi,hC⟩;simp only at hi hC;refine Au Ay 1 [] O (As (Av O (fun c1=>?_) (fun c1=>?_)))
  ·(try simp only[sd] at c1);have hi2:i<l.length:=by rw[BQ] at c1;omega
   obtain⟨t,hk⟩:=A6 hi2;have hks:=Cb hk;obtain⟨kd,ix,nm,ls,ks⟩:=t;have hnt:=Q9 hnd hk;simp only[Wd] at hnt;simp only[size] at hks;refine A2 (As (A9 (Aw (Aq O (A4 Bf O O An (Bd hk) (BD _)) (Aq O (BM BZ O (BD _)) (BF O (A7 Bx O) fun b7=>Ar Ay 1 [0,0] O (As (Au Ay 3 [] O (Av O (fun c2=>?_) (fun c2=>?_))))))))))
   ·(try simp only[sd] at c2);refine Au Ay 2 [] O (A1 ⟨O,_,[],De O,List.nil_sublist _,?_⟩);exact⟨pI (by rw[←hC,Uj hk,if_pos An]),O⟩
   (try simp only[sd] at c2);refine A2 (A3 (Ax Ay 3 [] O (Aq O (Jc O O) (Ax Ay 2 [0] O (Aq O (BC O O (ih (BX ks) An ks _ (Nat.le_refl _) hnt.2.2.2.2.1 hnt.2.2.2.1) O) (Aq O (EA O O) (Aq O (EA O O) (Ar Ay 1 [] O (A3 (Ar Ay 2 [] O ?_))))))))));exact⟨(i+1,wr (m+wr (1+EU ks (wr (most - m)) 0))),Ai,⟨by omega,by rw[←hC,Uj hk,if_neg An,Ee]⟩,FF ⟨rfl,rfl,rfl,rfl,rfl,trivial⟩ AA⟩
  (try simp only[sd] at c1);have hi2:i=l.length:=by rw[BQ] at c1;omega
  refine Be (Au Ay 2 [] O (A1 ⟨O,_,[],De O,List.nil_sublist _,?_⟩));exact⟨pI (by rw[←hC,hi2,List.drop_length];rfl),O⟩
theorem og:∀(x:CS),(p7 x)→ET Tryz.prog 100 [.agg ((By x).map .p)] (.p (.bool (decide ((x.vars.length:Int) > 20)))):=by
 intro x h1;refine A5 Tryz.func100 O qp (n:=7) O O (Aw (BF O (BN O) fun b1=>Ar Ay 1 [] O (Aw (Ax Ay 2 [0] O (Aq O (BJ CY O (List.length_map _)) (Ar Ay 2 [] O (A1 (⟨O,_,_,⟨_,_,O,O,O⟩,(List.nil_sublist _),?_⟩))))))))
 all_goals exact⟨rfl,rfl⟩
theorem nv:∀(l:List CS),(l.length<wide)→(∀x∈l,p7 x)→Gp Tryz.prog 130 [.p (.lst (List.map By l)),.p (.fn 100)] (fun v=>∃r:Int,v= .p (I r)∧(r<0→∀x∈l,x.vars.length≤20)):=by
 intro l h1 h2;simp only[wide] at h1;refine A5 Tryz.func130 O nK (n:=19) O O (Au Ay 1 [] O (As (Aw (Br O (Aq O (BJ EV O (List.length_map _)) (Ar Ay 1 [] O (A9 ?_)))))));refine Bc (α:=Nat) (fun i=>⟨19,mk [(0,.p (.lst (List.map By l))),(1,.p (.fn 100)),(7,.p (I (l.length:Nat))),(8,.p (I (i:Int)))],[],[]⟩) (fun i=>l.length - i) (fun i=>i≤l.length∧(∀j,j<i→∀x,l[j]?=some x→x.vars.length≤20)) 0 (⟨by omega,fun j h=>by omega⟩) ?_ ?_
 ·exact BS ⟨we O,we O,we O,we O,Ap⟩ (leH (is:=[]) O (C2))
 rintro i hC
 try simp only at hC
 obtain⟨hi,hC⟩:=hC;refine Au Ay 1 [] O (As (Av O (fun c=>?_) (fun c=>?_)))
 ·simp only[sd,se] at c;refine A2 (As (A9 (Au Ay 2 [] O (Aw (Ax Ay 3 [] O ?_)))));obtain⟨x,hx⟩:=A6 (l:=l) (i:=i) An;refine Aq O (A4 EV O O An (Fu hx) (Dg _)) (Aq O (BM DU O (Dg _)) (Aq O (BC O O (og x (h2 x (List.mem_of_getElem? hx))) O) (Bg O (Av O (fun c1=>?_) (fun c1=>?_)))))
  ·simp only[sd,se] at c1;refine Au Ay 2 [] O (A1 (⟨O,_,[],De O,List.nil_sublist _,⟨⟨_,O,?_⟩,O⟩⟩));exact fun h=>by omega
  simp only[sd,se] at c1;refine A2 (A3 (Ar Ay 2 [] O (⟨(i+1),AW,⟨by omega,Cx hC hx An⟩,BS ⟨we rfl,we rfl,we rfl,we rfl,trivial⟩ (leH (is:=[]) rfl (C2))⟩)))
 simp only[sd,se] at c;refine Be (Au Ay 1 [] O (A1 (⟨O,_,[],De O,List.nil_sublist _,⟨⟨_,O,?_⟩,O⟩⟩)));exact fun _ x hx=>by obtain⟨j,hj⟩:=K2 hx;exact hC j (by have:=(List.getElem?_eq_some_iff.1 hj).1;omega) x hj
theorem lL:∀(l:List CS),(l.length<wide)→(∀x∈l,p7 x)→Gp Tryz.prog 99 [.p (.lst (List.map By l)),.p (.fn 100)] (fun v=>∃b:Bool,v= .p (.bool b)∧(b=false→∀x∈l,x.vars.length≤20)):=by
 intro l h1 h2;refine A5 Tryz.func99 O tz (n:=9) O O (Au Ay 1 [] O (Aw (Ax Ay 2 [] O (Du O O (CI O O (nv l h1 h2) (.inl O)) ?_))));rintro _ ⟨r,rfl,hr⟩;refine Ar Ay 2 [] O (A1 (⟨O,_,[],De O,List.nil_sublist _,⟨⟨_,O,?_⟩,O⟩⟩));exact fun h=>hr (by simp at h;omega)
theorem rm:∀(n:Nat) (l:List Tm),(BX l≤n)→(kX l)→(l.length<wide)→Gp Tryz.prog 64 [.p (.lst (BE l))] (fun v=>∃b:Bool,v= .p (.bool b)∧(b=true→ZK l)):=by
 intro n
 induction n using Nat.strongRecOn with
 | ind n ih =>
  intro l h1 h2 h3;have h3b:=h3;simp only[wide] at h3b;refine A5 Tryz.func64 O wR (n:=36) O O (Au Ay 1 [] O (As (Aw (Br O (Aq O (BC O O (XT _ l 200 (Nat.le_refl _) h2 h3) O) (Ar Ay 1 [] O (Av O (fun c=>?_) (fun c=>?_))))))))
  ·have cR:=c;simp only[sd,se] at c;refine Au Ay 1 [] O (A1 (⟨O,_,[],De O,List.nil_sublist _,⟨⟨_,O,?_⟩,O⟩⟩));exact fun h=>absurd h Am
  have cR:=c;simp only[sd,se] at c;refine A2 (As (Aw (Br O (Aq O (BJ Bf O (BQ _)) (Ar Ay 1 [] O (A9 ?_))))));refine Bc (α:=Nat) (fun i=>⟨36,mk [(8,.p (.lst (BE l))),(9,.p (I (l.length:Nat))),(10,.p (I (i:Int)))],[],[]⟩) (fun i=>l.length - i) (fun i=>i≤l.length∧(∀j,j<i→∀x,l[j]?=some x→ed x)) 0 (⟨by omega,fun j h=>by omega⟩) ?_ ?_
  ·exact BS ⟨we O,we O,we O,Ap⟩ (leH (is:=[]) O (C2))
  rintro i hC
  try simp only at hC
  obtain⟨hi,hC⟩:=hC;refine Au Ay 1 [] O (As (Av O (fun c1=>?_) (fun c1=>?_)))
  ·have c1R:=c1;simp only[sd,se] at c1;refine A2 (As (A9 (Aw ?_)));obtain⟨t,ht⟩:=A6 (l:=l) (i:=i) An;refine Aq O (A4 Bf O O An (Bd ht) (BD _)) (Aq O (BM BZ O (BD _)) (BF O (A7 Bx O) fun b4=>Ar Ay 1 [0,1] O (As ?_)));obtain⟨tk,ti,tn,tl,ts⟩:=t;have hnt:=Q9 h2 ht;simp only[Wd] at hnt;have hks:=Cb ht;simp only[size] at hks;refine BT [8,9,10] 34 (fun y=>∃b:Bool,y= .p (.bool b)∧(b=false→ed (.mk tk ti tn tl ts))) ?_ ?_
   ·refine A3 (Ax Ay 2 [0] O (Aq O (GQ nW O) (Ax Ay 2 [] O (BO 18 O (fun g=>?_) (fun g=>?_)))))
    ·simp only[sd,se] at g;refine Ar Ay 16 [] O ?_;exact⟨O,O,AM,(by first | exact⟨_,rfl,fun h=>absurd h Am⟩ | exact⟨_,rfl,fun h=>by simp only[Bool.not_eq_false'] at h;exact⟨by omega,by omega,hb Ak,(hb1 h).sz,(hb1 h).nd,(hb1 h).fw⟩⟩),⟨O,O,O,Ap⟩⟩
    simp only[sd,se] at g;refine Ax Ay 2 [0] O (BB O (BJ EV O (List.length_map _)) (Ax Ay 3 [] O (BO 24 O (fun g1=>?_) (fun g1=>?_))))
    ·simp only[sd,se] at g1;refine Ar Ay 10 [] O ?_;exact⟨O,O,AM,(by first | exact⟨_,rfl,fun h=>absurd h Am⟩ | exact⟨_,rfl,fun h=>by simp only[Bool.not_eq_false'] at h;exact⟨by omega,by omega,hb Ak,(hb1 h).sz,(hb1 h).nd,(hb1 h).fw⟩⟩),⟨O,O,O,Ap⟩⟩
    simp only[sd,se] at g1;refine Ax Ay 2 [0] O (IN O O O O (CI O O (lL tl hnt.2.1 hnt.2.2.1) (.inl O)) ?_);rintro _ ⟨b,rfl,hb⟩;refine Ax Ay 2 [] O (BO 29 O (fun g2=>?_) (fun g2=>?_))
    ·refine Ar Ay 5 [] O ?_;exact⟨O,O,AM,(by first | exact⟨_,rfl,fun h=>absurd h Am⟩ | exact⟨_,rfl,fun h=>by simp only[Bool.not_eq_false'] at h;exact⟨by omega,by omega,hb Ak,(hb1 h).sz,(hb1 h).nd,(hb1 h).fw⟩⟩),⟨O,O,O,Ap⟩⟩
    refine Ax Ay 2 [0] O (IN O O O O (CI O O (ih (BX ts) An ts (Nat.le_refl _) hnt.2.2.2.2.1 hnt.2.2.2.1) (.inl O)) ?_);rintro _ ⟨b1,rfl,hb1⟩;refine Ar Ay 2 [] O ?_;exact⟨O,O,AM,(by first | exact⟨_,rfl,fun h=>absurd h Am⟩ | exact⟨_,rfl,fun h=>by simp only[Bool.not_eq_false'] at h;exact⟨by omega,by omega,hb Ak,(hb1 h).sz,(hb1 h).nd,(hb1 h).fw⟩⟩),⟨O,O,O,Ap⟩⟩
   rintro _ ⟨q,rfl,hq⟩;refine Av O (fun c2=>?_) (fun c2=>?_)
   ·have c2R:=c2;refine Au Ay 1 [] O (A1 (⟨O,_,[],De O,List.nil_sublist _,⟨⟨_,O,?_⟩,O⟩⟩));exact fun h=>absurd h Am
   have c2R:=c2;refine A2 (A3 (Ar Ay 2 [] O (⟨(i+1),AW,⟨by omega,Cx hC ht (hq (by simpa using c2))⟩,BS ⟨we rfl,we rfl,we rfl,trivial⟩ (leH (is:=[]) rfl (C2))⟩)))
  have c1R:=c1;simp only[sd,se] at c1;refine Be (Au Ay 1 [] O (A1 (⟨O,_,[],De O,List.nil_sublist _,⟨⟨_,O,?_⟩,O⟩⟩)));exact fun _=>lx (m:=i) An h2 h3 An hC
theorem jd:∀(l:List Tm),(kX l)→(l.length<wide)→Gp Tryz.prog 30 [.p (.lst (BE l))] (fun v=>∃bb:Bool,v= .p (.bool bb)∧(bb=true→ZK l∧∀t∈l,okB t=true)):=by
 intro l h1 h2;have h2b:=h2;simp only[wide] at h2b;refine A5 Tryz.func30 O uW (n:=18) O O (Au Ay 1 [] O (As (Aw (Br O (Du O O (CI O O (rm _ l (Nat.le_refl _) h1 h2) (.inl O)) ?_)))));rintro _ ⟨b,rfl,hb⟩;refine Ar Ay 1 [] O (Av O (fun c=>?_) (fun c=>?_))
 ·simp only[sd,se] at c;refine Au Ay 1 [] O (A1 (⟨O,_,[],De O,List.nil_sublist _,⟨⟨_,O,?_⟩,O⟩⟩));exact fun h=>absurd h Am
 simp only[sd,se] at c;have hf:=hb (by simpa using c);refine A2 (As (Aw (Br O (Aq O (BJ Bf O (BQ _)) (Ar Ay 1 [] O (A9 ?_))))));refine Bc (α:=Nat) (fun i=>⟨18,mk [(8,.p (.lst (BE l))),(9,.p (I (l.length:Nat))),(10,.p (I (i:Int)))],[],[]⟩) (fun i=>l.length - i) (fun i=>i≤l.length∧(∀j,j<i→∀x,l[j]?=some x→okB x=true)) 0 (⟨by omega,fun j h=>by omega⟩) ?_ ?_
 ·exact BS ⟨we O,we O,we O,Ap⟩ (leH (is:=[]) O (C2))
 rintro i hC
 try simp only at hC
 obtain⟨hi,hC⟩:=hC;refine Au Ay 1 [] O (As (Av O (fun c1=>?_) (fun c1=>?_)))
 ·simp only[sd,se] at c1;refine A2 (As (A9 (Aw ?_)));obtain⟨x,hx⟩:=A6 (l:=l) (i:=i) An;refine Aq O (A4 Bf O O An (Bd hx) (BD _)) (Aq O (BM BZ O (BD _)) (BF O (A7 Bx O) fun b4=>Ar Ay 1 [0,1] O (Aw (Aq O (BU (i:=0) BZ O O Ag) (Du O O (CI O O (P7 x 65536 8 65536 65536 (DX hf.nd hx) (by have:=Cb hx;have:=hf.sz;omega)) (.inl O)) ?_)))));rintro _ ⟨e,rfl,he⟩;refine Ar Ay 1 [] O (Av O (fun c2=>?_) (fun c2=>?_))
  ·simp only[sd,se] at c2;refine Au Ay 1 [] O (A1 (⟨O,_,[],De O,List.nil_sublist _,⟨⟨_,O,?_⟩,O⟩⟩));exact fun h=>absurd h Am
  simp only[sd,se] at c2;refine A2 (A3 (Ar Ay 2 [] O (⟨(i+1),AW,⟨by omega,Cx hC hx (jV (DX hf.nd hx) (by have:=Cb hx;have:=hf.sz;omega) An (he An))⟩,BS ⟨we rfl,we rfl,we rfl,trivial⟩ (leH (is:=[]) rfl (C2))⟩)))
 simp only[sd,se] at c1;refine Be (Au Ay 1 [] O (A1 (⟨O,_,[],De O,List.nil_sublist _,⟨⟨_,O,?_⟩,O⟩⟩)));exact fun _=>⟨hf,HW An hC⟩
theorem mE:∀(t:Tm),(okB t=true)→(size t<1000000)→Gp Tryz.prog 20 [.agg ((BP t).map .p)] (Kp):=by
 intro t h1 h2;refine A5 Tryz.func20 O u4 (n:=6) O O (Aw (BF O (BN O) fun b1=>Ar Ay 1 [] O (Aw (Aq O (BU (i:=0) BZ O O Ag) (Du O O (CI O O (P7 t 60000 8 65536 65536 (B2.1 h1).nd h2) (.inl O)) ?_)))));rintro _ ⟨e,rfl,he⟩;refine Ar Ay 2 [] O (A1 (⟨O,_,_,⟨_,_,O,O,O⟩,(List.nil_sublist _),?_⟩))
 all_goals exact⟨⟨_,rfl⟩,rfl⟩
theorem pa:∀(l:List Tm),(l.length<1000000)→(∀x∈l,okB x=true∧size x<1000000)→Gp Tryz.prog 67 [.p (.lst (BE l)),.p (.fn 20)] (cP):=by
 intro l h1 h2;refine A5 Tryz.func67 O vk (n:=19) O O (Au Ay 1 [] O (As (Aw (Br O (Aq O (BJ Bf O (BQ _)) (Ar Ay 1 [] O (A9 (Bc (α:=Nat) (fun i=>⟨19,mk [(0,.p (.lst (BE l))),(1,.p (.fn 20)),(7,.p (I (l.length:Nat))),(8,.p (I (i:Int)))],[],[]⟩) (fun i=>l.length - i) (fun i=>i≤l.length) 0 AQ ?_ ?_))))))))
 ·exact BS ⟨we O,we O,we O,we O,Ap⟩ (leH (is:=[]) O (C2))
 rintro i hC
 try simp only at hC
 have hi:=hC;refine Au Ay 1 [] O (As (Av O (fun c=>?_) (fun c=>?_)))
 ·simp only[sd,se] at c;refine A2 (As (A9 (Au Ay 2 [] O (Aw (Ax Ay 3 [] O ?_)))));obtain⟨x,hx⟩:=A6 (l:=l) (i:=i) An;refine Aq O (A4 Bf O O An (Bd hx) (BD _)) (Aq O (BM BZ O (BD _)) (Du O O (CI O O (mE x (h2 _ (List.mem_of_getElem? hx)).1 (h2 _ (List.mem_of_getElem? hx)).2) (.inl O)) ?_));rintro _ ⟨q,rfl⟩;refine Bg O (Av O (fun c1=>?_) (fun c1=>?_))
  ·refine Au Ay 2 [] O (A1 (⟨O,_,_,⟨_,_,O,O,O⟩,(List.nil_sublist _),?_⟩))
   all_goals exact⟨⟨_,rfl⟩,rfl⟩
  refine A2 (A3 (Ar Ay 2 [] O ?_));refine⟨(i+1),AW,by omega,BS ⟨we rfl,we rfl,we rfl,we rfl,trivial⟩ (leH (is:=[]) rfl (C2))⟩
 simp only[sd,se] at c;refine Be (Au Ay 1 [] O (A1 (⟨O,_,_,⟨_,_,O,O,O⟩,(List.nil_sublist _),?_⟩)))
 all_goals exact⟨⟨_,rfl⟩,rfl⟩
theorem lA:∀(l:List Tm),(l.length<1000000)→(∀x∈l,okB x=true∧size x<1000000)→Gp Tryz.prog 32 [.p (.lst (BE l)),.p (.fn 20)] (Kp):=by
 intro l h1 h2;refine A5 Tryz.func32 O vZ (n:=9) O O (Au Ay 1 [] O (Aw (Ax Ay 2 [] O (Du O O (CI O O (pa l h1 h2) (.inl O)) ?_))));rintro _ ⟨r,rfl⟩;refine Ar Ay 2 [] O (A1 (⟨O,_,_,⟨_,_,O,O,O⟩,(List.nil_sublist _),?_⟩))
 all_goals exact⟨⟨_,rfl⟩,rfl⟩
theorem iU:∀(ds:List B5) (l:List Tm),(Hg ds)→(kX l)→(l.length<wide)→Gp Tryz.prog 10 [.p (.lst (List.map Bi ds)),.p (.lst (BE l))] (fun v=>∃bb:Bool,v= .p (.bool bb)∧(bb=true→je ds l)):=by
 intro ds l h1 h2 h3;refine A5 Tryz.func10 O wD (n:=21) O O (Au Ay 1 [] O (Aw (Br O (Aq O (BC O O (XT _ l 60 (Nat.le_refl _) h2 h3) O) (Ax Ay 2 [] O (BO 8 O (fun g=>?_) (fun g=>?_)))))))
 ·simp only[sd,se] at g;refine BB O (Ba O) (IN O O O O (CI O O (jd l h2 h3) (.inl O)) ?_);rintro _ ⟨b,rfl,hb⟩;refine Ax Ay 2 [] O (BO 12 O (fun g1=>?_) (fun g1=>?_))
  ·refine BB O (Ba O) (IN O O O O (CI O O (fh ds h1) (.inl O)) ?_);rintro _ ⟨q,rfl,hq⟩;refine Ax Ay 2 [] O (BO 16 O (fun g2=>?_) (fun g2=>?_))
   ·refine BB O (Ba O) (IN O O O O (CI O O (lA l (eS (hb Ak).1) (ZU (hb Ak))) (.inl O)) ?_);rintro _ ⟨q1,rfl⟩;refine Ar Ay 3 [] O (A1 (⟨O,_,_,⟨_,_,O,O,O⟩,(List.nil_sublist _),?_⟩))
    all_goals exact⟨⟨_,rfl,fun h=>jj An (hb Ak) (hq Ak)⟩,rfl⟩
   refine Ar Ay 5 [] O (A1 (⟨O,_,_,⟨_,_,O,O,O⟩,(List.nil_sublist _),?_⟩))
   all_goals exact⟨⟨_,rfl,fun h=>absurd h Am⟩,rfl⟩
  refine Ar Ay 9 [] O (A1 (⟨O,_,_,⟨_,_,O,O,O⟩,(List.nil_sublist _),?_⟩))
  all_goals exact⟨⟨_,rfl,fun h=>absurd h Am⟩,rfl⟩
 simp only[sd,se] at g;refine Ar Ay 13 [] O (A1 (⟨O,_,_,⟨_,_,O,O,O⟩,(List.nil_sublist _),?_⟩))
 all_goals exact⟨⟨_,rfl,fun h=>absurd h Am⟩,rfl⟩
end Go.Proofs.YtboammbpdaoojaaGreat
namespace Go.Eu
open Go.Abs
def NF {α:Type}(o:Out α):Prop:=o≠ .fail
section
variable {α β:Type}
theorem GY (a:α):NF (.ok a):=fun h=>by cases h
theorem GZ:NF (.stuck:Out α):=fun h=>by cases h
theorem Vk {o:Out α}{k:α→Out β}(h:NF o) (hk:∀a,NF (k a)):NF (o.bind k):=by
 cases o with
 | stuck=>exact GZ
 | fail=>exact absurd rfl h
 | ok a=>exact hk a
theorem Zo {σ:Type}{o:Out (Tm×σ)}{k:Tm×σ→Out β}(h:NF o) (hk:∀a,NF (k a)):NF (o.chk k):=by
 unfold Out.chk;refine Vk h fun r=>?_;split
 ·exact hk r
 exact GZ
theorem Pv {s:Et}{x:Tm×Int}{k:Tm→Et→Out α}(hk:∀t s',NF (k t s')):NF (Db.put s x k):=by
 unfold Sys.put;split
 ·exact hk _ _
 exact GZ
end
section
variable {E:List B5}{W:Et→Tm→Out (Tm×Et)}
theorem aq (hW:∀c t,NF (W c t)):∀(n:Nat) (t:ES) (vs:List Tm) (l:Tm) (c:Et),NF (Dp E Db W n t vs l c)
 | 0,t,vs,l,c=>by rw[Dp];exact GZ
 | n+1,t,vs,l,c=>by
  rw[Dp];split
  ·split
   ·exact GY _
   refine Zo (hW _ _) fun r=>?_;split
   ·exact GY _
   split
   ·exact GY _
   exact aq hW n _ _ _ _
  exact GY _
theorem gT {d:B5}{h:Tm}{a:List Tm}{c:Et}:NF (Eg Db d h a c):=by
 unfold Eg;split
 ·exact GY _
 exact Pv fun _ _=>GY _
theorem lJ {d:B5}{h m:Tm}{a:List Tm}{c:Et}:NF (Es E Db d h a m c):=by
 unfold Es;split
 ·exact GY _
 split
 ·exact GY _
 split
 ·exact GY _
 exact Pv fun _ _=>GY _
theorem km {h b:Tm}{vs a:List Tm}{c:Et}:NF (GD Db h b vs a c):=by
 unfold GD;split
 ·exact GY _
 split
 ·exact GZ
 exact Pv fun _ _=>GY _
theorem kD (hW:∀c t,NF (W c t)) {n:Nat}{h:Tm}{a:List Tm}{c:Et}:NF (ED E Db W n h a c):=by
 unfold ED;split
 ·exact GY _
 split
 ·exact gT
 split
 ·unfold Qx;split
  ·exact GY _
  exact Zo (hW _ _) fun r=>lJ
 split
 ·unfold I0;split
  ·exact GY _
  refine Vk (aq hW _ _ _ _ _) fun q=>?_;split
  ·exact GY _
  split
  ·exact GY _
  exact km
 exact GY _
theorem nk:∀(n:Nat) (c:Et) (t:Tm),NF (DK E Db n c t)
 | 0,c,t=>by rw[DK];exact GZ
 | n+1,c,t=>by
  have ih:=nk n;rw[DK];split
  ·exact GZ
  split
  ·exact GY _
  split
  ·rename_i h;exact absurd h (by simp[Db])
  split
  ·split
   ·exact GY _
   unfold PJ;split
   ·exact GZ
   exact Pv fun _ _=>ih _ _
  split
  ·unfold Vq;split
   ·exact Pv fun _ _=>ih _ _
   exact GZ
  split
  ·split
   ·exact GZ
   refine Zo (ih _ _) fun r=>?_;split
   ·exact GY _
   unfold NP;split
   ·exact GZ
   exact Pv fun _ _=>ih _ _
  split
  ·refine Vk (kD ih) fun r=>?_;split
   ·exact GY _
   exact ih _ _
  exact GY _
end
theorem oo {α:Type}{o:Out α}{p:α→Prop}(h:Ct o p) (hf:NF o):∃a,o= .ok a∧p a:=by
 cases o with
 | stuck=>exact h.elim
 | fail=>exact absurd rfl hf
 | ok a=>exact⟨a,rfl,h⟩
@[irreducible] def FN:Nat:=1000000000000
theorem TJ:FN=1000000000000:=by unfold FN;rfl
section
variable {E:List B5}{t:Tm}
theorem oL (hE:Gi E) (ho:okB t=true) (hs:size t≤10000):Ct (DK E Bp FN 20000 t) (fun r=>okB r.1=true∧size r.1<549755813888) :=
 Ct.mono (Wc WD hE FN 20000 t ⟨LY,ho,fun _=>by simp;omega,fun _=>by rw[TJ];simp;omega,by rw[TJ];omega⟩) fun r h=>⟨h.ok,by have:=FC h.ok;omega⟩
theorem nw (hE:Gi E) (ho:okB t=true) (hs:size t≤10000):∃r c,DK E Db FN Lw t= .ok (r,c)∧okB r=true:=by
 obtain⟨⟨r,c⟩,h1,h2⟩:=oo (Wc lg hE FN Lw t ⟨⟨rfl,by decide,fun _=>by decide⟩,ho,fun _=>by simp[Lw];omega,fun _=>by rw[TJ];simp[Lw];omega,by rw[TJ];omega⟩) (nk FN Lw t);exact⟨r,c,h1,h2.ok⟩
theorem nu (hE:Gi E) (ho:okB t=true) (hs:size t≤10000) {r:Tm}{c:Et}(h:DK E Db FN Lw t= .ok (r,c)) (hv:c.over=false):Ov (DK E Bp FN 20000 t)=0∧Me Bh (DK E Bp FN 20000 t)=r:=by
 have h1:=(ay hE.g FN Lw t r c kA h hv (by simp[Lw];omega)).2 20000 (by simp[Lw]);rw[h1];exact⟨O,O⟩
theorem kr {α:Type}(o:Out (α×Int)):Ov o=0∨Ov o=11:=by
 cases o with
 | stuck=>exact .inr rfl
 | fail=>exact .inr rfl
 | ok a=>exact .inl rfl
end
structure Fit (z:Nat) (q:Tm):Prop where
 sz:size q≤2000+z
 dp:depth q≤95+z
def QF (z:Nat) (o:Out (Option Tm×Et)):Prop:=∀q c',o= .ok (some q,c')→c'.over=false→Fit z q
theorem QF.mono {z z':Nat}{o:Out (Option Tm×Et)}(h:QF z o) (hz:z≤z'):QF z' o:=fun q c' e hv=>by
 obtain⟨h1,h2⟩:=h q c' e hv;exact⟨by omega,by omega⟩
section
variable {E:List B5}
end
section
variable {E:List B5}{t:Tm}
theorem Vd (hE:Gi E) (ho:okB t=true) (hs:size t≤10000):Ct (Dl E Bp FN 20000 t) (R6 Bp Gl (fun n=>(20000 - n).toNat) 20000 (size t)) :=
 RQ WD hE FN 20000 t LY Ao ho (by rw[TJ];omega) An
theorem Z4 (hE:Gi E) (ho:okB t=true) (hs:size t≤10000):oY (Dl E Bp FN 20000 t):=fun q c e=>((Vd hE ho hs).get e).ok q rfl |>.1
theorem lj (o:Out (Option Tm×Int)):(JQ o).2.2=0∨(JQ o).2.2=11:=by
 cases o with
 | stuck=>exact .inr rfl
 | fail=>exact .inr rfl
 | ok a =>
  obtain⟨q,c⟩:=a;cases q with
  | none=>exact .inl rfl
  | some x =>
   by_cases h:ZG x=true
   ·exact .inl (by simp[JQ,h])
   exact .inr (by simp[JQ,h])
end
section
variable {E:List B5}{t:ES}{a:List Tm}
structure kO (t:ES) (a:List Tm):Prop where
 tok:EW t
 dep:Dc t≤50
 ok:∀x∈a,okB x=true
 sz:BX a≤60
theorem kO.len (h:kO t a):a.length≤60:=by have:=Dx a;have:=h.sz;omega
theorem kO.all (h:kO t a):∀x∈a,okB x=true∧size x≤100000:=fun x hx=>⟨h.ok x hx,by have:=En hx;have:=h.sz;omega⟩
end
end Go.Eu
namespace Go.Proofs.YtboammbpdaoojaaGreat
open Go.Abs Go.Eu
end Go.Proofs.YtboammbpdaoojaaGreat
namespace Go.Eu
open Go.Abs
section
variable {E:List B5}{t:Tm}
theorem oD (hE:Gi E) (ho:okB t=true) (hs:size t≤10000):okB (Me Bh (DK E Bp FN 20000 t))=true∧size (Me Bh (DK E Bp FN 20000 t))<100000000:=by
 have h:=Wc WD hE FN 20000 t ⟨LY,ho,fun _=>by simp;omega,fun _=>by rw[TJ];simp;omega,by rw[TJ];omega⟩;cases ho2:DK E Bp FN 20000 t with
 | stuck=>exact⟨IY,by decide⟩
 | fail=>exact⟨IY,by decide⟩
 | ok a =>
  rw[ho2] at h;have h1:Ub Bp Gl (fun n=>(20000 - n).toNat) 20000 20000 t a:=h;have h2:=h1.sz;have h3:=h1.j.1;have h4:=h1.j.2;refine⟨h1.ok,?_⟩;show size a.1<100000000;have:((20000:Int) - a.2).toNat - ((20000:Int) - 20000).toNat≤20000:=by omega
  have:=Nat.mul_le_mul_right 4500 this;omega
end
def I2 (k:Int) (ks:List Tm):Tm:= .mk k 0 ⟨#[]⟩ [] ks
theorem RR {k:Int}{ks:List Tm}(hN:qC k 0 ⟨#[]⟩ [] ks.length=true) (h:∀x∈ks,okB x=true) (hs:BX ks<1000000):okB (I2 k ks)=true :=
 LM (by rw[I2,LR,hN];simpa using JV.2 fun x hx=>IW (h x hx)) (by simp only[I2,size];omega)
theorem _root_.Go.AU {α:Prop}(h:α:=by simp only[I2,size,BX];omega):α:=h
section
variable {E:List B5}{f:Tm}{xs:List Tm}
theorem TN {h:Tm}(ho:okB h=true) (hs:size h≤5000) (ha:∀x∈xs,okB x=true) (hz:BX xs≤60):okB (apply h xs)=true∧size (apply h xs)≤10000:=by
 have h1:=Ch xs h;have h2:=Dx xs;exact⟨LM (JK (IW ho) fun x hx=>IW (ha x hx)) An,by omega⟩
structure KL (l0 l1 l2:Tm) (xs:List Tm):Prop where
 o0:okB l0=true
 o1:okB l1=true
 o2:okB l2=true
 oa:∀x∈xs,okB x=true
 sz:size l0+size l1+size l2+BX xs≤60
variable {l0 l1 l2 a b:Tm}{l m:Int}
theorem KL.lam (h:KL l0 l1 l2 xs):okB (I2 5 [l0,l1])=true∧size (I2 5 [l0,l1])≤100:=by
 have:=h.sz;exact⟨RR O (by simp[h.o0,h.o1]) (by simp only[BX];omega),by simp only[I2,size,BX];omega⟩
theorem KL.len (h:KL l0 l1 l2 xs):xs.length≤60:=by have:=h.sz;have:=Dx xs;omega
theorem KL.args (h:KL l0 l1 l2 xs):∀x∈l2::xs,okB x=true:=fun x hx=>by
 rcases List.mem_cons.1 hx with rfl | hx
 ·exact h.o2
 exact h.oa x hx
theorem KL.beta (h:KL l0 l1 l2 xs):okB (apply (Qt (I2 5 [l0,l1]) l2) xs)=true∧size (apply (Qt (I2 5 [l0,l1]) l2) xs)≤10000:=by
 have hz:=h.sz;have hh:=h.lam;exact TN (LM (bQ (IW hh.1) (IW h.o2)) (by simp only[Qt,size,BX];omega)) (by simp only[Qt,size,BX];omega) h.oa An
theorem KL.zeta (h:KL l0 l1 l2 xs):okB (apply (I2 11 [l0,l2,l1]) xs)=true∧size (apply (I2 11 [l0,l2,l1]) xs)≤10000:=by
 have hz:=h.sz;exact TN (RR O (by simp[h.o0,h.o1,h.o2]) (by simp only[BX];omega)) AU h.oa An
theorem KL.pair1 (h:KL l0 l1 l2 xs):okB (I2 8 [l0,l1,l2])=true:=by
 have hz:=h.sz;exact RR O (by simp[h.o0,h.o1,h.o2]) (by simp only[BX];omega)
theorem KL.swap (h:KL l0 l1 l2 xs):KL l0 l2 l1 xs:=⟨h.o0,h.o2,h.o1,h.oa,by have:=h.sz;omega⟩
theorem KL.proj (h:KL l0 l1 l2 xs) {k:Int}(hk:k=9∨k=10):okB (apply (I2 k [I2 8 [l0,l1,l2]]) xs)=true∧size (apply (I2 k [I2 8 [l0,l1,l2]]) xs)≤10000:=by
 have hz:=h.sz;refine TN (RR (by rcases hk with rfl | rfl<;>rfl) (by simp[h.pair1]) AU) AU h.oa An
theorem KL.body (h:KL l0 l1 l2 xs):okB (apply (CD l1 [l2] 0).1 xs)=true∧size (apply (CD l1 [l2] 0).1 xs)≤10000:=by
 have hz:=h.sz;have h2:=IH h.o1 (vs:=[l2]) (by simp[h.o2]);exact TN (Kb h.o1 (by simp[h.o2]) Ao) An h.oa An
theorem KL.second (h:KL l0 l1 l2 xs):okB (apply l1 xs)=true∧size (apply l1 xs)≤10000:=by
 have hz:=h.sz;exact TN h.o1 An h.oa An
end
end Go.Eu
namespace Go.Proofs.YtboammbpdaoojaaGreat
open Go.Abs Go.Eu
end Go.Proofs.YtboammbpdaoojaaGreat
namespace Go.Eu
open Go.Abs
inductive LC where
 | var (n:Nat)
 | atom (k i:Int) (nm:ByteArray) (ls:List CS)
 | app (f a:LC)
 | bnd (k:Int) (a b:LC)
 | prj (k:Int) (p:LC)
 | pair (a b c:LC)
 | lt (a v b:LC)
 deriving Inhabited
namespace LC
def up (f:Nat→Nat):Nat→Nat
 | 0=>0
 | n+1=>f n+1
def rn:(Nat→Nat)→LC→LC
 | f,var n=>var (f n)
 | f,atom k i nm ls=>atom k i nm ls
 | f,app g a=>app (rn f g) (rn f a)
 | f,bnd k a b=>bnd k (rn f a) (rn (up f) b)
 | f,prj k p=>prj k (rn f p)
 | f,pair a b c=>pair (rn f a) (rn f b) (rn f c)
 | f,lt a v b=>lt (rn f a) (rn f v) (rn (up f) b)
def ups (σ:Nat→LC):Nat→LC
 | 0=>var 0
 | n+1=>rn Nat.succ (σ n)
def sb:(Nat→LC)→LC→LC
 | σ,var n=>σ n
 | σ,atom k i nm ls=>atom k i nm ls
 | σ,app g a=>app (sb σ g) (sb σ a)
 | σ,bnd k a b=>bnd k (sb σ a) (sb (ups σ) b)
 | σ,prj k p=>prj k (sb σ p)
 | σ,pair a b c=>pair (sb σ a) (sb σ b) (sb σ c)
 | σ,lt a v b=>lt (sb σ a) (sb σ v) (sb (ups σ) b)
theorem nS (f g:Nat→Nat):(fun n=>up g (up f n))=up (fun n=>g (f n)):=by funext n;cases n<;>rfl
theorem Km:∀(t:LC) (f g:Nat→Nat),rn g (rn f t)=rn (fun n=>g (f n)) t
 | var n,f,g=>rfl
 | atom ..,f,g=>rfl
 | app a b,f,g=>by simp only[rn,Km a,Km b]
 | bnd k a b,f,g=>by simp only[rn,Km a,Km b,nS]
 | prj k p,f,g=>by simp only[rn,Km p]
 | pair a b c,f,g=>by simp only[rn,Km a,Km b,Km c]
 | lt a v b,f,g=>by simp only[rn,Km a,Km v,Km b,nS]
theorem gY (f:Nat→Nat) (σ:Nat→LC):(fun n=>ups σ (up f n))=ups (fun n=>σ (f n)):=by funext n;cases n<;>rfl
theorem Kl:∀(t:LC) (f:Nat→Nat) (σ:Nat→LC),sb σ (rn f t)=sb (fun n=>σ (f n)) t
 | var n,f,g=>rfl
 | atom ..,f,g=>rfl
 | app a b,f,g=>by simp only[rn,sb,Kl a,Kl b]
 | bnd k a b,f,g=>by simp only[rn,sb,Kl a,Kl b,gY]
 | prj k p,f,g=>by simp only[rn,sb,Kl p]
 | pair a b c,f,g=>by simp only[rn,sb,Kl a,Kl b,Kl c]
 | lt a v b,f,g=>by simp only[rn,sb,Kl a,Kl v,Kl b,gY]
theorem iE (f:Nat→Nat) (σ:Nat→LC):(fun n=>rn (up f) (ups σ n))=ups (fun n=>rn f (σ n)):=by
 funext n;cases n with
 | zero=>rfl
 | succ n=>simp only[ups,Km];rfl
theorem KU:∀(t:LC) (σ:Nat→LC) (f:Nat→Nat),rn f (sb σ t)=sb (fun n=>rn f (σ n)) t
 | var n,f,g=>rfl
 | atom ..,f,g=>rfl
 | app a b,f,g=>by simp only[rn,sb,KU a,KU b]
 | bnd k a b,f,g=>by simp only[rn,sb,KU a,KU b,iE]
 | prj k p,f,g=>by simp only[rn,sb,KU p]
 | pair a b c,f,g=>by simp only[rn,sb,KU a,KU b,KU c]
 | lt a v b,f,g=>by simp only[rn,sb,KU a,KU v,KU b,iE]
theorem aH (σ τ:Nat→LC):(fun n=>sb (ups τ) (ups σ n))=ups (fun n=>sb τ (σ n)):=by
 funext n;cases n with
 | zero=>rfl
 | succ n=>simp only[ups,Kl,KU]
theorem Jz:∀(t:LC) (σ τ:Nat→LC),sb τ (sb σ t)=sb (fun n=>sb τ (σ n)) t
 | var n,f,g=>rfl
 | atom ..,f,g=>rfl
 | app a b,f,g=>by simp only[sb,Jz a,Jz b]
 | bnd k a b,f,g=>by simp only[sb,Jz a,Jz b,aH]
 | prj k p,f,g=>by simp only[sb,Jz p]
 | pair a b c,f,g=>by simp only[sb,Jz a,Jz b,Jz c]
 | lt a v b,f,g=>by simp only[sb,Jz a,Jz v,Jz b,aH]
theorem bj:ups var=var:=by funext n;cases n<;>rfl
theorem HI:∀(t:LC),sb var t=t
 | var n=>rfl
 | atom ..=>rfl
 | app a b=>by simp only[sb,HI a,HI b]
 | bnd k a b=>by simp only[sb,bj,HI a,HI b]
 | prj k p=>by simp only[sb,HI p]
 | pair a b c=>by simp only[sb,HI a,HI b,HI c]
 | lt a v b=>by simp only[sb,bj,HI a,HI v,HI b]
theorem Wf (f:Nat→Nat) (t:LC):rn f t=sb (fun n=>var (f n)) t:=by
 have:=KU t var f;rw[HI] at this;exact this
def ins (vs:List LC) (n:Nat):LC:=if h:n<vs.length then vs[n] else var (n - vs.length)
def cl:Nat→LC→Prop
 | n,var m=>m<n
 | n,atom ..=>True
 | n,app f a=>cl n f∧cl n a
 | n,bnd k a b=>cl n a∧cl (n+1) b
 | n,prj k p=>cl n p
 | n,pair a b c=>cl n a∧cl n b∧cl n c
 | n,lt a v b=>cl n a∧cl n v∧cl (n+1) b
theorem KZ:∀(t:LC) (n:Nat) (σ τ:Nat→LC),cl n t→(∀m,m<n→σ m=τ m)→sb σ t=sb τ t
 | var m,n,σ,τ,h,he=>he m h
 | atom ..,n,σ,τ,h,he=>rfl
 | app a b,n,σ,τ,h,he=>by simp only[sb,KZ a n σ τ h.1 he,KZ b n σ τ h.2 he]
 | bnd k a b,n,σ,τ,h,he=>by simp only[sb,KZ a n σ τ h.1 he,KZ b (n+1) (ups σ) (ups τ) h.2 (ups_agree he)]
 | prj k p,n,σ,τ,h,he=>by simp only[sb,KZ p n σ τ h he]
 | pair a b c,n,σ,τ,h,he=>by simp only[sb,KZ a n σ τ h.1 he,KZ b n σ τ h.2.1 he,KZ c n σ τ h.2.2 he]
 | lt a v b,n,σ,τ,h,he=>by simp only[sb,KZ a n σ τ h.1 he,KZ v n σ τ h.2.1 he,KZ b (n+1) (ups σ) (ups τ) h.2.2 (ups_agree he)]
where
 ups_agree {n:Nat} {σ τ:Nat→LC} (he:∀m,m<n→σ m=τ m):∀m,m<n+1→ups σ m=ups τ m:=fun m hm=>by
  cases m with
  | zero=>rfl
  | succ m=>simp only[ups,he m An]
theorem UA {t:LC}(h:cl 0 t) (σ:Nat→LC):sb σ t=t:=by rw[KZ t 0 σ var h (fun m hm=>by omega),HI]
def apps (f:LC) (xs:List LC):LC:=xs.foldl app f
theorem M7 (σ:Nat→LC):∀(xs:List LC) (f:LC),sb σ (apps f xs)=apps (sb σ f) (xs.map (sb σ))
 | [],f=>rfl
 | x::xs,f=>by simp only[apps,List.foldl_cons,List.map_cons];exact M7 σ xs (app f x)
end LC
def tr:Tm→LC
 | .mk k i n l []=>if k=0 then .var i.toNat else .atom k i n l
 | .mk k i n l [a]=> .prj k (tr a)
 | .mk k i n l [a,b]=>if k=4 then .app (tr a) (tr b) else .bnd k (tr a) (tr b)
 | .mk k i n l [a,b,c]=>if k=11 then .lt (tr a) (tr b) (tr c) else .pair (tr a) (tr b) (tr c)
 | .mk k i n l _=> .atom k i n l
end Go.Eu
namespace Go.Eu
open Go.Abs Go.Eu.LC
theorem lQ {er e:Int}(h:GB er e=0):er=0∧e=0:=by
 unfold GB at h;split at h
 ·rename_i h1;exact⟨h1,h⟩
 rename_i h1;exact absurd h h1
theorem jO {er i:Int}(h:L6 er i=0):er=0∧i≤65535:=by
 unfold L6 at h;split at h
 ·exact absurd (lQ h).2 Am
 exact⟨h,by omega⟩
theorem NZ {n:Int}(h1: -9223372036854775808≤n) (h2:n≤9223372036854775807):wr n=n:=EP ⟨h1,h2⟩
def gV (d b:Nat) (n:Nat):Nat:=if n<d then n else n+b
theorem jJ (d b:Nat):up (gV d b)=gV (d+1) b:=by
 funext n;cases n with
 | zero=>simp[up,gV]
 | succ n =>
  simp only[up,gV];by_cases h:n<d
  ·rw[if_pos h,if_pos An]
  rw[if_neg h,if_neg An];omega
theorem jm (i:Int):tr (OH i)= .var i.toNat:=rfl
theorem uQ {k:Int}(h:(1:Int)=arity k):k=9∨k=10:=by
 unfold arity at h;repeat (split at h<;>first | omega | skip)
theorem wc {k:Int}(h:(2:Int)=arity k):k=4∨k=5∨k=6∨k=7:=by
 unfold arity at h;repeat (split at h<;>first | omega | skip)
theorem ux {k:Int}(h:(3:Int)=arity k):k=8∨k=11:=by
 unfold arity at h;repeat (split at h<;>first | omega | skip)
theorem YL (k:Int):arity k≤3:=by
 unfold arity;repeat (split<;>try omega)
theorem KP {P:Tm→Prop}(h0:∀k i n l,P (.mk k i n l [])) (h1:∀k i n l a,(k=9∨k=10)→P a→P (.mk k i n l [a])) (h2:∀k i n l a b,(k=4∨k=5∨k=6∨k=7)→P a→P b→P (.mk k i n l [a,b]))
  (h3:∀k i n l a b c,(k=8∨k=11)→P a→P b→P c→P (.mk k i n l [a,b,c])):∀(m:Nat) (t:Tm),size t≤m→Wt t→P t
 | 0,t,h,_=>by have:=size_pos t;omega
 | m+1,.mk k i n l ks,h,hw=>by
  simp only[Wt] at hw;obtain⟨ha,_,hk⟩:=hw;simp only[size] at h
  match ks,ha,hk,h with
  | [],ha,hk,h=>exact h0 k i n l
  | [a],ha,hk,h =>
   simp only[BX] at h;exact h1 k i n l a (uQ ha) (KP h0 h1 h2 h3 m a An hk.1)
  | [a,b],ha,hk,h =>
   simp only[BX] at h;exact h2 k i n l a b (wc ha) (KP h0 h1 h2 h3 m a An hk.1) (KP h0 h1 h2 h3 m b An hk.2.1)
  | [a,b,c],ha,hk,h =>
   simp only[BX] at h;exact h3 k i n l a b c (ux ha) (KP h0 h1 h2 h3 m a An hk.1) (KP h0 h1 h2 h3 m b An hk.2.1) (KP h0 h1 h2 h3 m c An hk.2.2.1)
  | a::b::c::e::r,ha,hk,h =>
   exfalso;have:=YL k;simp only[List.length_cons] at ha;omega
theorem below_1 {k:Int}(h:k=9∨k=10):below k 0=0:=by rcases h with rfl | rfl<;>decide
theorem below_2 {k:Int}(h:k=4∨k=5∨k=6∨k=7):below k 0=0∧below k 1=if k=4 then 0 else 1:=by rcases h with rfl | rfl | rfl | rfl<;>decide
theorem below_3 {k:Int}(h:k=8∨k=11):below k 0=0∧below k 1=0∧below k 2=if k=11 then 1 else 0:=by rcases h with rfl | rfl<;>decide
theorem fO {b:Nat}(hb:b<1099511627776) {t:Tm}(hw:Wt t):Vp t→∀(d:Nat) (er:Int),d+size t<1099511627776→(CT b 0 d er t).2=0→er=0∧tr (CT b 0 d er t).1=rn (gV d b) (tr t):=by
 refine KP (P:=fun t=>Vp t→∀(d:Nat) (er:Int),d+size t<1099511627776→(CT b 0 d er t).2=0→er=0∧tr (CT b 0 d er t).1=rn (gV d b) (tr t)) ?_ ?_ ?_ ?_ _ t (Nat.le_refl _) hw
 ·intro k i n l hv d er hd h;simp only[Vp] at hv;by_cases hk:k=0
  ·obtain⟨v1,v2⟩:=hv.1 hk;rw[CT,if_pos hk] at h ⊢;have e1:wr (0+(d:Int))=d:=by rw[NZ]<;>omega
   have e2:wr (i+b)=i+b:=by rw[NZ]<;>omega
   rw[e1,e2] at h ⊢;by_cases h1:i<d
   ·rw[if_pos h1] at h ⊢;refine⟨h,?_⟩;simp only[tr,if_pos hk,rn,gV];rw[if_pos An]
   rw[if_neg h1] at h ⊢;rw[if_neg An] at h ⊢;refine⟨(jO h).1,?_⟩;simp only[tr,jm,if_pos hk,rn,gV];rw[if_neg An];congr 1;omega
  rw[CT,if_neg hk] at h ⊢;simp only[Cy] at h ⊢;refine⟨h,?_⟩;simp only[tr,if_neg hk,rn]
 ·intro k i n l a hk ha hv d er hd h;simp only[Vp,Oh] at hv;simp only[size,BX] at hd;have h0:k≠0:=by omega
  rw[CT,if_neg h0] at h ⊢;simp only[Cy] at h ⊢;rw[show ((0:Nat):Int)=0 from rfl,below_1 hk] at h ⊢;rw[Int.add_zero] at h ⊢;obtain⟨e,g⟩:=ha hv.2.1 d er An h;exact⟨e,by simp only[tr,rn,g]⟩
 ·intro k i n l a b' hk ha hb' hv d er hd h;simp only[Vp,Oh] at hv;simp only[size,BX] at hd;have h0:k≠0:=by omega
  obtain⟨q1,q2⟩:=below_2 hk;rw[CT,if_neg h0] at h ⊢;simp only[Cy] at h ⊢;rw[show ((0:Nat):Int)=0 from rfl,show ((0+1:Nat):Int)=1 from rfl,q1,q2] at h ⊢;rw[Int.add_zero] at h ⊢;by_cases h4:k=4
  ·rw[if_pos h4,Int.add_zero] at h ⊢;obtain⟨e,g⟩:=hb' hv.2.2.1 d _ An h;obtain⟨e',g'⟩:=ha hv.2.1 d er An e;exact⟨e',by simp only[tr,if_pos h4,rn,g,g']⟩
  rw[if_neg h4] at h ⊢;rw[show (d:Int)+1=((d+1:Nat):Int) by omega] at h ⊢;obtain⟨e,g⟩:=hb' hv.2.2.1 (d+1) _ An h;obtain⟨e',g'⟩:=ha hv.2.1 d er An e;exact⟨e',by simp only[tr,if_neg h4,rn,g,g',jJ]⟩
 intro k i n l a b' c hk ha hb' hc hv d er hd h;simp only[Vp,Oh] at hv;simp only[size,BX] at hd;have h0:k≠0:=by omega
 obtain⟨q1,q2,q3⟩:=below_3 hk;rw[CT,if_neg h0] at h ⊢;simp only[Cy] at h ⊢;rw[show ((0:Nat):Int)=0 from rfl,show ((0+1:Nat):Int)=1 from rfl,show ((0+1+1:Nat):Int)=2 from rfl,q1,q2,q3] at h ⊢;rw[Int.add_zero] at h ⊢;by_cases h4:k=11
 ·rw[if_pos h4] at h ⊢;rw[show (d:Int)+1=((d+1:Nat):Int) by omega] at h ⊢;obtain⟨e,g⟩:=hc hv.2.2.2.1 (d+1) _ An h;obtain⟨e',g'⟩:=hb' hv.2.2.1 d _ An e;obtain⟨e2,g2⟩:=ha hv.2.1 d er An e';exact⟨e2,by simp only[tr,if_pos h4,rn,g,g',g2,jJ]⟩
 rw[if_neg h4,Int.add_zero] at h ⊢;obtain⟨e,g⟩:=hc hv.2.2.2.1 d _ An h;obtain⟨e',g'⟩:=hb' hv.2.2.1 d _ An e;obtain⟨e2,g2⟩:=ha hv.2.1 d er An e';exact⟨e2,by simp only[tr,if_neg h4,rn,g,g',g2]⟩
def TZ (d:Nat) (vs:List LC) (n:Nat):LC:=if n<d then var n else if n - d<vs.length then rn (gV 0 d) (vs.getD (n - d) default) else var (n - vs.length)
theorem Yg (d:Nat) (vs:List LC):ups (TZ d vs)=TZ (d+1) vs:=by
 funext n;cases n with
 | zero=>simp[ups,TZ]
 | succ n =>
  simp only[ups,TZ,Nat.add_lt_add_iff_right,Nat.add_sub_add_right];split
  ·rfl
  split
  ·rw[Km];congr 1
  simp only[rn];congr 1;omega
theorem qV:gV 0 0=fun n=>n:=by funext n;simp[gV]
theorem qN (t:LC):rn (fun n=>n) t=t:=by rw[Wf];exact HI t
theorem pY (vs:List LC):TZ 0 vs=ins vs:=by
 funext n;simp only[TZ,ins,Nat.not_lt_zero,if_false,Nat.sub_zero];by_cases h:n<vs.length
 ·rw[if_pos h,dif_pos h,qV,qN];simp[List.getD,h]
 rw[if_neg h,dif_neg h]
structure np (vs:List Tm):Prop where
 wt:∀v∈vs,Wt v
 vp:∀v∈vs,Vp v
 sz:∀v∈vs,size v<549755813888
 len:vs.length<2251799813685248
def qz (vs:List Tm) (d:Nat) (er nd:Int) (t:Tm) (r:Tm×Int×Int):Prop:=0≤r.2.2∧(r.2.1=0→r.2.2≤4096→er=0∧nd≤r.2.2∧tr r.1=sb (TZ d (vs.map tr)) (tr t))
theorem gP {vs:List Tm}(hs:np vs) {t:Tm}(hw:Wt t):Vp t→∀(d:Nat) (er nd:Int),0≤nd→d+size t<549755813888→qz vs d er nd t (B0 vs d er nd t):=by
 refine KP (P:=fun t=>Vp t→∀(d:Nat) (er nd:Int),0≤nd→d+size t<549755813888→qz vs d er nd t (B0 vs d er nd t)) ?_ ?_ ?_ ?_ _ t (Nat.le_refl _) hw
 ·intro k i n l hv d er nd hnd hd;simp only[Vp] at hv;rw[B0];by_cases h1:nd > 4096
  ·rw[if_pos h1];exact⟨by simp only;omega,fun _ h=>by simp only at h;omega⟩
  rw[if_neg h1];by_cases hk:k=0
  ·obtain⟨v1,v2⟩:=hv.1 hk;have et:tr (.mk k i n l [])= .var i.toNat:=by simp only[tr,if_pos hk]
   by_cases h2:k=0∧i≥d∧i - d<(vs.length:Int)
   ·rw[if_pos h2];obtain⟨_,h5,h6⟩:=h2;have hlt:(i - d).toNat<vs.length:=by omega
    have hg:vs.getD (i - d).toNat Bh=vs[(i - d).toNat]:=IP (List.getElem?_eq_getElem hlt);have hm:vs[(i - d).toNat]∈vs:=List.getElem_mem hlt;have hz:=hs.sz _ hm;rw[hg,ME An,NZ An An];refine⟨by simp only;omega,fun h3 h4=>?_⟩;simp only at h3 h4;obtain⟨e,g⟩:=fO (b:=d) An (hs.wt _ hm) (hs.vp _ hm) 0 er An h3;refine⟨e,by simp only;omega,?_⟩;rw[et];simp only[sb,TZ];rw[if_neg An,if_pos Ai];rw[show i.toNat - d=(i - d).toNat by omega];have:(vs.map tr).getD (i - d).toNat default=tr vs[(i - d).toNat]:=IP (by rw[List.getElem?_map,List.getElem?_eq_getElem hlt];rfl);rw[this];exact g
   rw[if_neg h2,if_pos hk];by_cases h3:i≥d
   ·rw[if_pos h3];have hlen:=hs.len;rw[NZ (n:=i - vs.length) An An,NZ (n:=nd+1) An An];refine⟨by simp only;omega,fun h4 h5=>?_⟩;simp only at h4 h5;refine⟨(jO h4).1,by simp only;omega,?_⟩;rw[et,jm];simp only[sb,TZ];have h6:¬i - d<(vs.length:Int):=fun h=>h2 ⟨hk,h3,h⟩;rw[if_neg An,if_neg Ai];simp only[List.length_map];congr 1;omega
   rw[if_neg h3,NZ (n:=nd+1) An An];refine⟨by simp only;omega,fun h4 h5=>?_⟩;simp only at h4 h5;refine⟨h4,by simp only;omega,?_⟩;rw[et];simp only[sb,TZ];rw[if_pos An]
  rw[if_neg (fun h=>hk h.1),if_neg hk];simp only[CW];rw[NZ (n:=nd+1) An An];refine⟨by simp only;omega,fun h4 h5=>?_⟩;simp only at h4 h5;exact⟨h4,by simp only;omega,by simp only[tr,if_neg hk,sb]⟩
 ·intro k i n l a hk ha hv d er nd hnd hd;simp only[Vp,Oh] at hv;simp only[size,BX] at hd;have h0:k≠0:=by omega
  rw[B0];by_cases h1:nd > 4096
  ·rw[if_pos h1];exact⟨by simp only;omega,fun _ h=>by simp only at h;omega⟩
  rw[if_neg h1,if_neg (fun h=>h0 h.1),if_neg h0];simp only[CW];rw[NZ (n:=nd+1) An An,show ((0:Nat):Int)=0 from rfl,below_1 hk,Int.add_zero];obtain⟨hA,hA2⟩:=ha hv.2.1 d er (nd+1) An An;refine⟨hA,fun h4 h5=>?_⟩;obtain⟨e,f,g⟩:=hA2 h4 h5;exact⟨e,by simp only;omega,by simp only[tr,sb,g]⟩
 ·intro k i n l a b' hk ha hb' hv d er nd hnd hd;simp only[Vp,Oh] at hv;simp only[size,BX] at hd;have h0:k≠0:=by omega
  obtain⟨q1,q2⟩:=below_2 hk;rw[B0];by_cases h1:nd > 4096
  ·rw[if_pos h1];exact⟨by simp only;omega,fun _ h=>by simp only at h;omega⟩
  rw[if_neg h1,if_neg (fun h=>h0 h.1),if_neg h0];simp only[CW];rw[NZ (n:=nd+1) An An,show ((0:Nat):Int)=0 from rfl,show ((0+1:Nat):Int)=1 from rfl,q1,q2,Int.add_zero];obtain⟨hA,hA2⟩:=ha hv.2.1 d er (nd+1) An An;by_cases h4:k=4
  ·rw[if_pos h4,Int.add_zero];obtain⟨hB,hB2⟩:=hb' hv.2.2.1 d (B0 vs d er (nd+1) a).2.1 _ hA An;refine⟨hB,fun h5 h6=>?_⟩;obtain⟨e,f,g⟩:=hB2 h5 h6;simp only at h6;obtain⟨e',f',g'⟩:=hA2 e An;exact⟨e',by simp only;omega,by simp only[tr,if_pos h4,sb,g,g']⟩
  rw[if_neg h4,show (d:Int)+1=((d+1:Nat):Int) by omega];obtain⟨hB,hB2⟩:=hb' hv.2.2.1 (d+1) (B0 vs d er (nd+1) a).2.1 _ hA An;refine⟨hB,fun h5 h6=>?_⟩;obtain⟨e,f,g⟩:=hB2 h5 h6;simp only at h6;obtain⟨e',f',g'⟩:=hA2 e An;exact⟨e',by simp only;omega,by simp only[tr,if_neg h4,sb,g,g',Yg]⟩
 intro k i n l a b' c hk ha hb' hc hv d er nd hnd hd;simp only[Vp,Oh] at hv;simp only[size,BX] at hd;have h0:k≠0:=by omega
 obtain⟨q1,q2,q3⟩:=below_3 hk;rw[B0];by_cases h1:nd > 4096
 ·rw[if_pos h1];exact⟨by simp only;omega,fun _ h=>by simp only at h;omega⟩
 rw[if_neg h1,if_neg (fun h=>h0 h.1),if_neg h0];simp only[CW];rw[NZ (n:=nd+1) An An,show ((0:Nat):Int)=0 from rfl,show ((0+1:Nat):Int)=1 from rfl,show ((0+1+1:Nat):Int)=2 from rfl,q1,q2,q3,Int.add_zero];obtain⟨hA,hA2⟩:=ha hv.2.1 d er (nd+1) An An;obtain⟨hB,hB2⟩:=hb' hv.2.2.1 d (B0 vs d er (nd+1) a).2.1 _ hA An;by_cases h4:k=11
 ·rw[if_pos h4,show (d:Int)+1=((d+1:Nat):Int) by omega];obtain⟨hC,hC2⟩:=hc hv.2.2.2.1 (d+1) (B0 vs d (B0 vs d er (nd+1) a).2.1 (B0 vs d er (nd+1) a).2.2 b').2.1 _ hB An;refine⟨hC,fun h5 h6=>?_⟩;obtain⟨e,f,g⟩:=hC2 h5 h6;simp only at h6;obtain⟨e',f',g'⟩:=hB2 e An;obtain⟨e2,f2,g2⟩:=hA2 e' An;exact⟨e2,by simp only;omega,by simp only[tr,if_pos h4,sb,g,g',g2,Yg]⟩
 rw[if_neg h4,Int.add_zero];obtain⟨hC,hC2⟩:=hc hv.2.2.2.1 d (B0 vs d (B0 vs d er (nd+1) a).2.1 (B0 vs d er (nd+1) a).2.2 b').2.1 _ hB An;refine⟨hC,fun h5 h6=>?_⟩;obtain⟨e,f,g⟩:=hC2 h5 h6;simp only at h6;obtain⟨e',f',g'⟩:=hB2 e An;obtain⟨e2,f2,g2⟩:=hA2 e' An;exact⟨e2,by simp only;omega,by simp only[tr,if_neg h4,sb,g,g',g2]⟩
theorem jh {vs:List Tm}(hs:np vs) {t:Tm}(hw:Wt t) (hv:Vp t) (hz:size t<549755813888) (h:(CD t vs 0).2=0):tr (CD t vs 0).1=sb (ins (vs.map tr)) (tr t):=by
 unfold CD at h ⊢;have hm:min (0:Int) 65536=((0:Nat):Int):=by decide
 rw[hm] at h ⊢;split at h
 ·cases h
 rename_i h1;rw[if_neg h1];split at h
 ·rename_i h2;exact absurd h h2
 rename_i h2;rw[if_neg h2];split at h
 ·cases h
 rename_i h3;rw[if_neg h3,←pY];exact((gP hs hw hv 0 0 0 (Int.le_refl _) An).2 (by simpa using h2) An).2.2
end Go.Eu
