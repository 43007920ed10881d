/- Part of the proofs: an abstract program logic, plain models and contracts of functions. -/
import Derived.Test.YtifphifongokcaaGreatPb
import Derived.Test.YtifphifongokcaaGreatProg
import Derived.Test.YtifphifongokcaaGreatPc
set_option linter.unusedVariables false
set_option linter.unusedSimpArgs false
set_option maxRecDepth 100000
namespace Go.Proofs.YtifphifongokcaaGreat
open Go.Abs
theorem E1:Ds Tryz.prog 22=some (63,2,32):=by kernel_rfl
theorem BY:Ds Tryz.prog 23=some (25,5,80):=by kernel_rfl
theorem Md:Ds Tryz.prog 26=some (76,6,96):=by kernel_rfl
theorem YA:Ds Tryz.prog 29=some (114,15,224):=by kernel_rfl
theorem KQ:Ds Tryz.prog 34=some (72,4,88):=by kernel_rfl
theorem GY:Ds Tryz.prog 61=some (60,2,16):=by kernel_rfl
theorem Ll:Ds Tryz.prog 70=some (86,3,56):=by kernel_rfl
theorem UY:Ds Tryz.prog 110=some (159,10,144):=by kernel_rfl
theorem DX:Ds Tryz.prog 121=some (3,1,8):=by kernel_rfl
theorem nE:BJ Tryz.prog 3=true:=by kernel_rfl
theorem oB:BJ Tryz.prog 5=true:=by kernel_rfl
theorem nU:BJ Tryz.prog 6=true:=by kernel_rfl
theorem n5:BJ Tryz.prog 7=true:=by kernel_rfl
theorem me:BJ Tryz.prog 8=true:=by kernel_rfl
theorem mM:BJ Tryz.prog 9=true:=by kernel_rfl
theorem lF:BJ Tryz.prog 10=true:=by kernel_rfl
theorem kC:BJ Tryz.prog 11=true:=by kernel_rfl
theorem j7:BJ Tryz.prog 12=true:=by kernel_rfl
theorem kW:BJ Tryz.prog 14=true:=by kernel_rfl
theorem jL:BJ Tryz.prog 20=true:=by kernel_rfl
theorem lB:BJ Tryz.prog 21=true:=by kernel_rfl
theorem kh:BJ Tryz.prog 22=true:=by kernel_rfl
theorem jk:BJ Tryz.prog 23=true:=by kernel_rfl
theorem jP:BJ Tryz.prog 24=true:=by kernel_rfl
theorem lV:BJ Tryz.prog 25=true:=by kernel_rfl
theorem kf:BJ Tryz.prog 26=true:=by kernel_rfl
theorem jr:BJ Tryz.prog 27=true:=by kernel_rfl
theorem kU:BJ Tryz.prog 28=true:=by kernel_rfl
theorem jE:BJ Tryz.prog 29=true:=by kernel_rfl
theorem jM:BJ Tryz.prog 30=true:=by kernel_rfl
theorem ja:BJ Tryz.prog 31=true:=by kernel_rfl
theorem ji:BJ Tryz.prog 32=true:=by kernel_rfl
theorem lA:BJ Tryz.prog 33=true:=by kernel_rfl
theorem kG:BJ Tryz.prog 34=true:=by kernel_rfl
theorem k9:BJ Tryz.prog 35=true:=by kernel_rfl
theorem lD:BJ Tryz.prog 36=true:=by kernel_rfl
theorem jf:BJ Tryz.prog 37=true:=by kernel_rfl
theorem kj:BJ Tryz.prog 38=true:=by kernel_rfl
theorem ki:BJ Tryz.prog 39=true:=by kernel_rfl
theorem jv:BJ Tryz.prog 40=true:=by kernel_rfl
theorem kE:BJ Tryz.prog 41=true:=by kernel_rfl
theorem lK:BJ Tryz.prog 42=true:=by kernel_rfl
theorem j6:BJ Tryz.prog 43=true:=by kernel_rfl
theorem kM:BJ Tryz.prog 44=true:=by kernel_rfl
theorem lE:BJ Tryz.prog 45=true:=by kernel_rfl
theorem jy:BJ Tryz.prog 49=true:=by kernel_rfl
theorem kx:BJ Tryz.prog 50=true:=by kernel_rfl
theorem kD:BJ Tryz.prog 51=true:=by kernel_rfl
theorem jN:BJ Tryz.prog 61=true:=by kernel_rfl
theorem kL:BJ Tryz.prog 62=true:=by kernel_rfl
theorem kX:BJ Tryz.prog 63=true:=by kernel_rfl
theorem kc:BJ Tryz.prog 64=true:=by kernel_rfl
theorem j0:BJ Tryz.prog 65=true:=by kernel_rfl
theorem lT:BJ Tryz.prog 66=true:=by kernel_rfl
theorem lL:BJ Tryz.prog 67=true:=by kernel_rfl
theorem ju:BJ Tryz.prog 68=true:=by kernel_rfl
theorem iN:BJ Tryz.prog 69=true:=by kernel_rfl
theorem kZ:BJ Tryz.prog 70=true:=by kernel_rfl
theorem lG:BJ Tryz.prog 71=true:=by kernel_rfl
theorem je:BJ Tryz.prog 72=true:=by kernel_rfl
theorem fg:BJ Tryz.prog 73=true:=by kernel_rfl
theorem jn:BJ Tryz.prog 74=true:=by kernel_rfl
theorem jH:BJ Tryz.prog 75=true:=by kernel_rfl
theorem jX:BJ Tryz.prog 76=true:=by kernel_rfl
theorem kO:BJ Tryz.prog 77=true:=by kernel_rfl
theorem jG:BJ Tryz.prog 78=true:=by kernel_rfl
theorem jj:BJ Tryz.prog 79=true:=by kernel_rfl
theorem lS:BJ Tryz.prog 80=true:=by kernel_rfl
theorem jQ:BJ Tryz.prog 81=true:=by kernel_rfl
theorem j3:BJ Tryz.prog 82=true:=by kernel_rfl
theorem kt:BJ Tryz.prog 83=true:=by kernel_rfl
theorem jT:BJ Tryz.prog 84=true:=by kernel_rfl
theorem jb:BJ Tryz.prog 85=true:=by kernel_rfl
theorem jq:BJ Tryz.prog 86=true:=by kernel_rfl
theorem ko:BJ Tryz.prog 87=true:=by kernel_rfl
theorem jF:BJ Tryz.prog 88=true:=by kernel_rfl
theorem jW:BJ Tryz.prog 89=true:=by kernel_rfl
theorem jx:BJ Tryz.prog 90=true:=by kernel_rfl
theorem jU:BJ Tryz.prog 91=true:=by kernel_rfl
theorem kR:BJ Tryz.prog 92=true:=by kernel_rfl
theorem kK:BJ Tryz.prog 93=true:=by kernel_rfl
theorem jo:BJ Tryz.prog 94=true:=by kernel_rfl
theorem jS:BJ Tryz.prog 95=true:=by kernel_rfl
theorem kb:BJ Tryz.prog 96=true:=by kernel_rfl
theorem kk:BJ Tryz.prog 98=true:=by kernel_rfl
theorem kP:BJ Tryz.prog 99=true:=by kernel_rfl
theorem fj:BJ Tryz.prog 100=true:=by kernel_rfl
theorem iF:BJ Tryz.prog 106=true:=by kernel_rfl
theorem fB:BJ Tryz.prog 107=true:=by kernel_rfl
theorem iO:BJ Tryz.prog 108=true:=by kernel_rfl
theorem bP:BJ Tryz.prog 112=true:=by kernel_rfl
theorem gi:BJ Tryz.prog 113=true:=by kernel_rfl
theorem bO:BJ Tryz.prog 114=true:=by kernel_rfl
theorem iU:BJ Tryz.prog 115=true:=by kernel_rfl
theorem gD:BJ Tryz.prog 116=true:=by kernel_rfl
theorem gu:BJ Tryz.prog 117=true:=by kernel_rfl
theorem gP:BJ Tryz.prog 118=true:=by kernel_rfl
theorem fP:BJ Tryz.prog 119=true:=by kernel_rfl
theorem iH:BJ Tryz.prog 120=true:=by kernel_rfl
theorem hO:BJ Tryz.prog 121=true:=by kernel_rfl
theorem gM:BJ Tryz.prog 122=true:=by kernel_rfl
theorem eZ:BJ Tryz.prog 123=true:=by kernel_rfl
theorem ft:BJ Tryz.prog 131=true:=by kernel_rfl
theorem gN:BJ Tryz.prog 132=true:=by kernel_rfl
theorem fy:BJ Tryz.prog 133=true:=by kernel_rfl
theorem gY:BJ Tryz.prog 139=true:=by kernel_rfl
theorem gr:BJ Tryz.prog 140=true:=by kernel_rfl
theorem fX:BJ Tryz.prog 141=true:=by kernel_rfl
theorem gp:BJ Tryz.prog 142=true:=by kernel_rfl
theorem fk:BJ Tryz.prog 143=true:=by kernel_rfl
theorem e8:BJ Tryz.prog 144=true:=by kernel_rfl
theorem iY:BJ Tryz.prog 145=true:=by kernel_rfl
theorem gn:BJ Tryz.prog 146=true:=by kernel_rfl
theorem gk:BJ Tryz.prog 151=true:=by kernel_rfl
theorem iV:BJ Tryz.prog 157=true:=by kernel_rfl
theorem iT:BJ Tryz.prog 161=true:=by kernel_rfl
theorem iM:BJ Tryz.prog 162=true:=by kernel_rfl
theorem gO:BJ Tryz.prog 165=true:=by kernel_rfl
theorem fA:BJ Tryz.prog 166=true:=by kernel_rfl
theorem gC:BJ Tryz.prog 167=true:=by kernel_rfl
theorem ad:BJ Tryz.prog 174=true:=by kernel_rfl
theorem iD:BJ Tryz.prog 175=true:=by kernel_rfl
theorem fe:BJ Tryz.prog 176=true:=by kernel_rfl
theorem fO:BJ Tryz.prog 177=true:=by kernel_rfl
theorem iR:BJ Tryz.prog 182=true:=by kernel_rfl
theorem gz:BJ Tryz.prog 187=true:=by kernel_rfl
theorem gx:BJ Tryz.prog 188=true:=by kernel_rfl
theorem KO:fieldsOf Tryz.prog 25=some [(0,1),(1,1),(2,1),(3,1),(4,1)]:=by kernel_rfl
theorem Vz:fieldsOf Tryz.prog 28=some [(0,1),(1,5),(6,1)]:=by kernel_rfl
theorem EO:fieldsOf Tryz.prog 31=some [(0,1),(1,1),(2,1),(3,5),(8,5),(13,1),(14,1),(15,7),(22,1)]:=by kernel_rfl
theorem E9:fieldsOf Tryz.prog 36=some [(0,1),(1,1),(2,1),(3,1),(4,5),(9,1)]:=by kernel_rfl
theorem iZ:fieldsOf Tryz.prog 60=some [(0,1),(1,1)]:=by kernel_rfl
theorem VC:fieldsOf Tryz.prog 63=some [(0,1),(1,1)]:=by kernel_rfl
theorem Nq:fieldsOf Tryz.prog 72=some [(0,1),(1,1),(2,1),(3,1)]:=by kernel_rfl
theorem QK:fieldsOf Tryz.prog 76=some [(0,1),(1,5)]:=by kernel_rfl
theorem Km:fieldsOf Tryz.prog 80=some [(0,1)]:=by kernel_rfl
theorem ZH:fieldsOf Tryz.prog 83=some [(0,1),(1,1),(2,5)]:=by kernel_rfl
theorem XK:fieldsOf Tryz.prog 86=some [(0,1),(1,1),(2,1)]:=by kernel_rfl
theorem Ux:fieldsOf Tryz.prog 112=some [(0,1),(1,5),(6,1),(7,1)]:=by kernel_rfl
theorem XZ:fieldsOf Tryz.prog 114=some [(0,1),(1,5),(6,1),(7,8)]:=by kernel_rfl
theorem cO:fieldsOf Tryz.prog 159=some [(0,1),(1,1),(2,8)]:=by kernel_rfl
theorem eo:fieldsOf Tryz.prog 161=some [(0,5),(5,1),(6,1)]:=by kernel_rfl
theorem eb:fieldsOf Tryz.prog 178=some [(0,1),(1,1)]:=by kernel_rfl
theorem fQ:fieldsOf Tryz.prog 202=some [(0,1),(1,1),(2,1),(3,1),(4,1)]:=by kernel_rfl
theorem Eb:Tryz.prog.follows .mixedOrders=true:=by kernel_rfl
theorem iE:Kl Tryz.prog 60=true:=by kernel_rfl
theorem ty2:DY Tryz.prog 2=some (false,1):=by kernel_rfl
theorem Hd:DY Tryz.prog 3=some (false,1):=by kernel_rfl
theorem S3:DY Tryz.prog 9=some (false,1):=by kernel_rfl
theorem DD:DY Tryz.prog 23=some (false,1):=by kernel_rfl
theorem Bx:DY Tryz.prog 25=some (true,5):=by kernel_rfl
theorem Oe:DY Tryz.prog 26=some (false,1):=by kernel_rfl
theorem ep:DY Tryz.prog 28=some (true,7):=by kernel_rfl
theorem YI:DY Tryz.prog 29=some (false,1):=by kernel_rfl
theorem Ru:DY Tryz.prog 31=some (true,23):=by kernel_rfl
theorem QI:DY Tryz.prog 34=some (false,1):=by kernel_rfl
theorem Gc:DY Tryz.prog 36=some (true,10):=by kernel_rfl
theorem fZ:DY Tryz.prog 39=some (false,1):=by kernel_rfl
theorem dk:DY Tryz.prog 60=some (true,2):=by kernel_rfl
theorem Qn:DY Tryz.prog 63=some (true,2):=by kernel_rfl
theorem X4:DY Tryz.prog 70=some (false,1):=by kernel_rfl
theorem I0:DY Tryz.prog 72=some (true,4):=by kernel_rfl
theorem fq:DY Tryz.prog 76=some (true,6):=by kernel_rfl
theorem lU:DY Tryz.prog 78=some (false,1):=by kernel_rfl
theorem gw:DY Tryz.prog 83=some (true,7):=by kernel_rfl
theorem TY:DY Tryz.prog 86=some (true,3):=by kernel_rfl
theorem T3:DY Tryz.prog 110=some (false,1):=by kernel_rfl
theorem bJ:DY Tryz.prog 112=some (true,8):=by kernel_rfl
theorem cU:DY Tryz.prog 121=some (false,1):=by kernel_rfl
theorem aj:DY Tryz.prog 202=some (true,5):=by kernel_rfl
theorem gS:DY Tryz.prog 203=some (true,65):=by kernel_rfl
theorem ew:DY Tryz.prog 225=some (true,1):=by kernel_rfl
theorem bq:Tryz.prog.underlying 203=some (.array 13 202):=by kernel_rfl
theorem fo:Tryz.prog.underlying 20=some (.interface #[]):=by kernel_rfl
theorem cJ:Tryz.prog.underlying 245=some (.int .i64):=by kernel_rfl
theorem dX:Tryz.prog.underlying 9=some .string:=by kernel_rfl
theorem XC:zeroOf Tryz.prog 3=some (.int .i64 0):=by kernel_rfl
theorem Bq:zeroOf Tryz.prog 25=some (.agg { toList:=[.int .i64 0,.int .i64 0,.string { data:={ toList:=[] } },.slice none 0 0,.slice none 0 0] }):=by kernel_rfl
theorem aF:zeroOf Tryz.prog 28=some (.agg { toList:=[.int .i64 0,.int .i64 0,.int .i64 0,.string { data:={ toList:=[] } },.slice none 0 0,.slice none 0 0,.slice none 0 0] }):=by kernel_rfl
theorem hP:zeroOf Tryz.prog 31=some (.agg { toList:=[.int .i64 0,.string { data:={ toList:=[] } },.int .i64 0,.int .i64 0,.int .i64 0,.string { data:={ toList:=[] } },.slice none 0 0,.slice none 0 0,.int .i64 0,.int .i64 0,.string { data:={ toList:=[] } },.slice none 0 0,.slice none 0 0,.int .i64 0,.slice none 0 0,.int .i64 0,.int .i64 0,.int .i64 0,.string { data:={ toList:=[] } },.slice none 0 0,.slice none 0 0,.slice none 0 0,.slice none 0 0] }):=by kernel_rfl
theorem Q7:zeroOf Tryz.prog 36=some (.agg { toList:=[.string { data:={ toList:=[] } },.int .i64 0,.slice none 0 0,.slice none 0 0,.int .i64 0,.int .i64 0,.string { data:={ toList:=[] } },.slice none 0 0,.slice none 0 0,.slice none 0 0] }):=by kernel_rfl
theorem gW:zeroOf Tryz.prog 39=some (.int .i64 0):=by kernel_rfl
theorem Qf:zeroOf Tryz.prog 60=some (.agg { toList:=[.int .i64 0,.int .i64 0] }):=by kernel_rfl
theorem G0:zeroOf Tryz.prog 63=some (.agg { toList:=[.int .i64 0,.slice none 0 0] }):=by kernel_rfl
theorem Ls:zeroOf Tryz.prog 72=some (.agg { toList:=[.string { data:={ toList:=[] } },.slice none 0 0,.slice none 0 0,.slice none 0 0] }):=by kernel_rfl
theorem ZZ:zeroOf Tryz.prog 76=some (.agg { toList:=[.string { data:={ toList:=[] } },.int .i64 0,.int .i64 0,.string { data:={ toList:=[] } },.slice none 0 0,.slice none 0 0] }):=by kernel_rfl
theorem Wf:zeroOf Tryz.prog 80=some (.agg { toList:=[.slice none 0 0] }):=by kernel_rfl
theorem Y2:zeroOf Tryz.prog 83=some (.agg { toList:=[.slice none 0 0,.slice none 0 0,.int .i64 0,.int .i64 0,.string { data:={ toList:=[] } },.slice none 0 0,.slice none 0 0] }):=by kernel_rfl
theorem VV:zeroOf Tryz.prog 86=some (.agg { toList:=[.int .i64 0,.slice none 0 0,.slice none 0 0] }):=by kernel_rfl
theorem Xe:zeroOf Tryz.prog 121=some (.slice none 0 0):=by kernel_rfl
theorem aa:zeroOf Tryz.prog 161=some (.agg { toList:=[.int .i64 0,.int .i64 0,.string { data:={ toList:=[] } },.slice none 0 0,.slice none 0 0,.slice none 0 0,.int .i64 0] }):=by kernel_rfl
theorem fG:zeroOf Tryz.prog 178=some (.agg { toList:=[.int .i64 0,.int .i64 0] }):=by kernel_rfl
theorem Wn:zeroOf Tryz.prog 203=some (.agg { toList:=[.bool false,.bool false,.int .i64 0,.int .i64 0,.int .i64 0,.bool false,.bool false,.int .i64 0,.int .i64 0,.int .i64 0,.bool false,.bool false,.int .i64 0,.int .i64 0,.int .i64 0,.bool false,.bool false,.int .i64 0,.int .i64 0,.int .i64 0,.bool false,.bool false,.int .i64 0,.int .i64 0,.int .i64 0,.bool false,.bool false,.int .i64 0,.int .i64 0,.int .i64 0,.bool false,.bool false,.int .i64 0,.int .i64 0,.int .i64 0,.bool false,.bool false,.int .i64 0,.int .i64 0,.int .i64 0,.bool false,.bool false,.int .i64 0,.int .i64 0,.int .i64 0,.bool false,.bool false,.int .i64 0,.int .i64 0,.int .i64 0,.bool false,.bool false,.int .i64 0,.int .i64 0,.int .i64 0,.bool false,.bool false,.int .i64 0,.int .i64 0,.int .i64 0,.bool false,.bool false,.int .i64 0,.int .i64 0,.int .i64 0] }):=by kernel_rfl
theorem iX:zeroOf Tryz.prog 205=some .nilFunc:=by kernel_rfl
theorem fN:zeroOf Tryz.prog 225=some (.agg { toList:=[.nilFunc] }):=by kernel_rfl
end Go.Proofs.YtifphifongokcaaGreat
namespace Go.Abs
def TW (P:Program) (ops:Array Oper) (H₀:List A8):Nat→(Nat→AV)→List A8→List AV→((Nat→AV)→List A8→Prop)→Prop
 | _,τ,H,[],K=>K τ H
 | k,τ,H,v::r,K=>∃o H',ops[k]?=some o∧o.guard=none∧DT P o (ev τ) (H++H₀) v (H'++H₀)∧TW P ops H₀ (k+1) (put τ o.dst v) H' r K
def kF (fl:List Nat) (base:List Ez):Bool:=fl.all fun j=>match base.getD j .skip with | .val _=>true | _=>false
def mO (ops:Array Oper) (e:Nat) (fl:List Nat):Bool:=(List.range ops.size).all fun i=>Nat.blt i e||(List.range i).all fun j=>(Nat.blt j e&&fl.contains j)||J2 ops j i
theorem TW.facts {P:Program}{ops:Array Oper}{H₀:List A8}{τ:Nat→AV}{fb:List Ez}(β:Nat→BV):∀(r:List AV) (k:Nat) (τk:Nat→AV) (H:List A8) (K:(Nat→AV)→List A8→Prop),(∀m,m<r.length→k+m<fb.length∧fb.getD (k+m) .skip= .val (r.getD m (.p .any)))→τk=τS ops (QW β 0 fb) τ k→TW P ops H₀ k τk H r K →
  ∃Hm:Nat→List A8,Hm k=H∧(∀j,k≤j→j<k+r.length→∃o,ops[j]?=some o∧o.guard=none∧DT P o (ev (τS ops (QW β 0 fb) τ j)) (Hm j++H₀) ((fb.getD j .skip).v (β j)) (Hm (j+1)++H₀))∧K (τS ops (QW β 0 fb) τ (k+r.length)) (Hm (k+r.length))
 | [],k,τk,H,K,hf,ht,h=>⟨fun _=>H,rfl,fun j h1 h2=>by simp at h2;omega,by simp only[List.length_nil,Nat.add_zero];rw[←ht];exact h⟩
 | v::r,k,τk,H,K,hf,ht,h=>by
  obtain⟨o,H',ho,hg,hop,hn⟩:=h;obtain⟨f1,f2⟩:=hf 0 Ao;simp only[Nat.add_zero,List.getD_cons_zero] at f1 f2;obtain⟨Hm,h1,h2,h3⟩:=TW.facts (τ:=τ) (fb:=fb) β r (k+1) _ H' K (fun m hm=>by have:=hf (m+1) (by simpa using hm);rw[show k+(m+1)=k+1+m by omega] at this;simpa using this) (by simp only[τS,ho,Option.bind_some];rw[LK β f1,f2,←ht];rfl) hn;refine⟨fun j=>if j=k then H else Hm j,by simp,fun j hj hl=>?_,?_⟩
  ·by_cases e:j=k
   ·subst e;refine⟨o,ho,hg,?_⟩;rw[f2,←ht];show DT P o (ev τk) ((if j=j then H else Hm j)++H₀) v ((if j+1=j then H else Hm (j+1))++H₀);rw[if_pos rfl,if_neg An,h1];exact hop
   show ∃o,ops[j]?=some o∧o.guard=none∧DT P o _ ((if j=k then H else Hm j)++H₀) _ ((if j+1=k then H else Hm (j+1))++H₀);rw[if_neg e,if_neg An];exact h2 j An (by simp only[List.length_cons] at hl;omega)
  show K _ (if k+(v::r).length=k then H else Hm (k+(v::r).length));simp only[List.length_cons];rw[if_neg An,show k+(r.length+1)=k+1+r.length by omega];exact h3
section
variable {P:Program}{ops:Array Oper}{H₀:List A8}{k:Nat}{τ:Nat→AV}{r:List AV}{K:(Nat→AV)→List A8→Prop}{dst:Option Tmp}{op:Op}{ty:TypeId}{pos:String}{aft:Array Edge}{v:AV}{H:List A8}
end
def mG (P:Program) (ops:Array Oper) (H₀ H₁:List A8) (i₀:Nat) (fl:List Nat) (k:Nat) (o:Oper) (τ:Nat→AV) (e:Ez):Prop :=
 if k=i₀ then ∃v,e= .val v∧o.guard=none∧∀Bs,DT P o (ev τ) (Bs++H₀) v (Bs++H₁) else WN P ops H₀ o τ e∧WN P ops H₁ o τ e∧(fl.contains k=true→∀v,e= .val v→∀X,DT P o (ev τ) X v X)
def E5 (P:Program) (ops:Array Oper) (H₀ H₁:List A8) (i₀:Nat) (fl:List Nat):Nat→(Nat→AV)→List Ez→((Nat→AV)→List A8→Prop)→Prop
 | _,τ,[],K=>K τ []
 | k,τ,e::r,K=>∃o,ops[k]?=some o∧mG P ops H₀ H₁ i₀ fl k o τ e∧∀b,e.ok b→E5 P ops H₀ H₁ i₀ fl (k+1) (put τ o.dst (e.v b)) r (fun τ' Hs=>K τ' (e.box b++Hs))
theorem E5.facts {P:Program}{ops:Array Oper}{H₀ H₁:List A8}{i₀:Nat}{fl:List Nat}{τ:Nat→AV}{base fb:List Ez}(hf:∀j,j<base.length→j<fb.length∧fb.getD j .skip=base.getD j .skip) (β:Nat→BV):∀(r:List Ez) (k:Nat) (τk:Nat→AV) (K:(Nat→AV)→List A8→Prop),base.drop k=r→k+r.length=base.length→τk=τS ops (QW β 0 fb) τ k→E5 P ops H₀ H₁ i₀ fl k τk r K→(∀j,k≤j→j<base.length→(base.getD j .skip).ok (β j)) →
  (∀j,k≤j→j<base.length→∃o,ops[j]?=some o∧mG P ops H₀ H₁ i₀ fl j o (τS ops (QW β 0 fb) τ j) (base.getD j .skip))∧K (τS ops (QW β 0 fb) τ base.length) (j8 β k r)
 | [],k,τk,K,hd,hk,ht,h,hβ=>by
  simp only[List.length_nil,Nat.add_zero] at hk;subst hk;exact⟨fun j h1 h2=>by omega,by rw[←ht];exact h⟩
 | e::r,k,τk,K,hd,hk,ht,h,hβ=>by
  obtain⟨o,ho,hok,hn⟩:=h;simp only[List.length_cons] at hk;have hb:base.getD k .skip=e:=by
   have:(base.drop k)[0]?=some e:=by rw[hd];rfl
   rw[List.getElem?_drop] at this;rw[List.getD_eq_getElem?_getD,show k=k+0 by omega,this];rfl
  have hd2:base.drop (k+1)=r:=by
   rw[←List.drop_drop,hd];rfl
  obtain⟨f1,f2⟩:=hf k An;obtain⟨h1,h2⟩:=E5.facts (τ:=τ) (base:=base) hf β r (k+1) _ _ hd2 An (by simp only[τS,ho,Option.bind_some];rw[LK β f1,f2,hb,←ht]) (hn (β k) (by have:=hβ k (Nat.le_refl _) An;rwa [hb] at this)) (fun j h1 h2=>hβ j An h2);refine⟨fun j hj hl=>?_,h2⟩;by_cases e2:j=k
  ·subst e2;exact⟨o,ho,by rw[hb,←ht];exact hok⟩
  exact h1 j An hl
def TV (P:Program) (ops:Array Oper):Nat→(Nat→AV)→List A8→List AV→((Nat→AV)→List A8→Prop)→Prop
 | _,τ,H,[],K=>K τ H
 | k,τ,H,v::r,K=>∃o H',ops[k]?=some o∧o.guard=none∧DT P o (ev τ) H v H'∧TV P ops (k+1) (put τ o.dst v) H' r K
theorem TV.facts {P:Program}{ops:Array Oper}{τ:Nat→AV}{fb:List Ez}(β:Nat→BV):∀(r:List AV) (k:Nat) (τk:Nat→AV) (H:List A8) (K:(Nat→AV)→List A8→Prop),(∀m,m<r.length→k+m<fb.length∧fb.getD (k+m) .skip= .val (r.getD m (.p .any)))→τk=τS ops (QW β 0 fb) τ k→TV P ops k τk H r K →
  ∃Hm:Nat→List A8,Hm k=H∧(∀j,k≤j→j<k+r.length→∃o,ops[j]?=some o∧o.guard=none∧DT P o (ev (τS ops (QW β 0 fb) τ j)) (Hm j) ((fb.getD j .skip).v (β j)) (Hm (j+1)))∧K (τS ops (QW β 0 fb) τ (k+r.length)) (Hm (k+r.length))
 | [],k,τk,H,K,hf,ht,h=>⟨fun _=>H,rfl,fun j h1 h2=>by simp at h2;omega,by simp only[List.length_nil,Nat.add_zero];rw[←ht];exact h⟩
 | v::r,k,τk,H,K,hf,ht,h=>by
  obtain⟨o,H',ho,hg,hop,hn⟩:=h;obtain⟨f1,f2⟩:=hf 0 Ao;simp only[Nat.add_zero,List.getD_cons_zero] at f1 f2;obtain⟨Hm,h1,h2,h3⟩:=TV.facts (τ:=τ) (fb:=fb) β r (k+1) _ H' K (fun m hm=>by have:=hf (m+1) (by simpa using hm);rw[show k+(m+1)=k+1+m by omega] at this;simpa using this) (by simp only[τS,ho,Option.bind_some];rw[LK β f1,f2,←ht];rfl) hn;refine⟨fun j=>if j=k then H else Hm j,by simp,fun j hj hl=>?_,?_⟩
  ·by_cases e:j=k
   ·subst e;refine⟨o,ho,hg,?_⟩;rw[f2,←ht];show DT P o (ev τk) (if j=j then H else Hm j) v (if j+1=j then H else Hm (j+1));rw[if_pos rfl,if_neg An,h1];exact hop
   show ∃o,ops[j]?=some o∧o.guard=none∧DT P o _ (if j=k then H else Hm j) _ (if j+1=k then H else Hm (j+1));rw[if_neg e,if_neg An];exact h2 j An (by simp only[List.length_cons] at hl;omega)
  show K _ (if k+(v::r).length=k then H else Hm (k+(v::r).length));simp only[List.length_cons];rw[if_neg An,show k+(r.length+1)=k+1+r.length by omega];exact h3
section
variable {P:Program}{ops:Array Oper}{H₀ H₁:List A8}{i₀:Nat}{fl:List Nat}{k:Nat}{τ:Nat→AV}{r:List Ez}{K:(Nat→AV)→List A8→Prop}{dst:Option Tmp}{op:Op}{ty:TypeId}{pos:String}{aft:Array Edge}{v:AV}
def nG (P:Program) (T:TypeId):Bool:=match P.underlying T with
 | some (.interface _)=>false
 | some _=>true
 | none=>false
end
def lx (P:Program) (ops:Array Oper) (H:List A8) (u:AV) (i₀ k:Nat) (o:Oper) (τ:Nat→AV) (e:Ez):Prop :=
 if k=i₀ then o.guard=none∧∀Bs,Cc P o (ev τ) (Bs++H) (fun r _=>r= .panic u) else J2 ops i₀ k=true∨WN P ops H o τ e
def E7 (P:Program) (ops:Array Oper) (H:List A8) (u:AV) (i₀:Nat):Nat→(Nat→AV)→List Ez→Prop
 | _,τ,[]=>True
 | k,τ,e::r=>∃o,ops[k]?=some o∧lx P ops H u i₀ k o τ e∧∀b,e.ok b→E7 P ops H u i₀ (k+1) (put τ o.dst (e.v b)) r
theorem E7.facts {P:Program}{ops:Array Oper}{H₀:List A8}{τ:Nat→AV}{base:List Ez}{u:AV}{i₀:Nat}(β:Nat→BV):∀(r:List Ez) (k:Nat) (τk:Nat→AV),base.drop k=r→k+r.length=base.length→τk=τS ops (QW β 0 base) τ k→E7 P ops H₀ u i₀ k τk r→(∀j,k≤j→j<base.length→(base.getD j .skip).ok (β j)) →
  (∀j,k≤j→j<base.length→∃o,ops[j]?=some o∧lx P ops H₀ u i₀ j o (τS ops (QW β 0 base) τ j) (base.getD j .skip))
 | [],k,τk,hd,hk,ht,h,hβ=>by
  simp only[List.length_nil,Nat.add_zero] at hk;subst hk;exact fun j h1 h2=>by omega
 | e::r,k,τk,hd,hk,ht,h,hβ=>by
  obtain⟨o,ho,hok,hn⟩:=h;simp only[List.length_cons] at hk;have hb:base.getD k .skip=e:=by
   have:(base.drop k)[0]?=some e:=by rw[hd];rfl
   rw[List.getElem?_drop] at this;rw[List.getD_eq_getElem?_getD,show k=k+0 by omega,this];rfl
  have hd2:base.drop (k+1)=r:=by
   rw[←List.drop_drop,hd];rfl
  have h1:=E7.facts (τ:=τ) (base:=base) β r (k+1) _ hd2 An (by simp only[τS,ho,Option.bind_some];rw[LK β An,hb,←ht]) (hn (β k) (by have:=hβ k (Nat.le_refl _) An;rwa [hb] at this)) (fun j h1 h2=>hβ j An h2);intro j hj hl;by_cases e2:j=k
  ·subst e2;exact⟨o,ho,by rw[hb,←ht];exact hok⟩
  exact h1 j An hl
section
variable {P:Program}{ops:Array Oper}{H:List A8}{u:AV}{i₀:Nat}{k:Nat}{τ:Nat→AV}{r:List Ez}{dst:Option Tmp}{op:Op}{ty:TypeId}{pos:String}{aft:Array Edge}{v:AV}
end
section
variable {P:Program}{dst:Option Tmp}{ty:TypeId}{pos:String}{aft:Array Edge}{g:Option (Nat×Bool)}{ρ:Operand→AV}{H:List A8}{x y:Operand}
end
structure Te (P:Program) where
 fd:Nat→Option (List (Nat×Nat))
 ty:Nat→Option (Bool×Nat)
 zr:Nat→Option (List AV)
 hfd:∀T l,fd T=some l→fieldsOf P T=some l
 hty:∀T l,ty T=some l→DY P T=some l
 hzr:∀T l,zr T=some l→∃z,zeroOf P T=some z∧z.cells.toList.map EH=l
def jD (op:BinOp) (m n:Int):Option Bool :=
 match op with | .eql=>some (m==n) | .neq=>some (m !=n) | .lss=>some (decide (m<n)) | .leq=>some (decide (m≤n)) | .gtr=>some (decide (m > n)) | .geq=>some (decide (m≥n)) | _=>none
def en (op:BinOp) (m n:Int):Option Int :=
 match op with | .add=>some (m+n) | .sub=>some (m - n) | .mul=>some (m*n) | _=>none
abbrev gL:=AV×List A8×List Nat×Prop
def Wh (op:BinOp) (H:List A8) (is:List Nat) (C:Prop):AV→AV→Option gL
 | .p (.int k m),.p (.int k' n) =>
  match jD op m n with
  | some b=>some (.p (.bool b),H,is,C∧k=k')
  | none =>
   match k,k',en op m n with
   | .i64,.i64,some r=>some (.p (.int .i64 r),H,is,(C∧ -9223372036854775808≤r)∧r≤9223372036854775807)
   | _,_,_=>none
 | _,_=>none
def QX (H:List A8) (is:List Nat) (C:Prop) (t:Bool×Nat):AV→Option gL
 | .ref cells =>
  bif t.1 then some (.agg (cells.map .p),H,is,C∧cells.length=t.2)
  else match cells with
   | c::_=>some (.p c,H,is,C)
   | []=>none
 | .ptr b o =>
  match is with
  | []=>none
  | i::is =>
   match H[i]? with
   | some (.box b' cs) =>
    bif t.1 then (match o with | 0=>some (.agg cs,H,is,(C∧b'=b)∧cs.length=t.2) | _+1=>none)
    else (match cs[o]? with | some v=>some (v,H,is,C∧b'=b) | none=>none)
   | _=>none
 | _=>none
def Qd (H:List A8) (is:List Nat) (C:Prop) (t:Bool×Nat) (y:AV):AV→Option gL
 | .ptr b o =>
  match is with
  | i::w::is =>
   match H[i]?,EI y,t.2 with
   | some (.box b' cs),some us,n+1 =>
    match w with
    | 0=>some (.p .any,H.set i (.box b (splice cs o us)),is,(((C∧b'=b)∧us.length=n+1)∧Nat.ble (o+(n+1)) cs.length=true)∧us.all one=true)
    | _+1=>match o with
     | 0=>some (.p .any,H.set i (.box b us),is,(((C∧b'=b)∧us.length=n+1)∧cs.length=n+1)∧us.all one=true)
     | _+1=>none
   | _,_,_=>none
  | _=>none
 | _=>none
def RC (H:List A8) (is:List Nat) (C:Prop) (off:Nat):AV→Option gL
 | .ptr b o=>some (.ptr b (o+off),H,is,C)
 | .ref cells=>some (.ref (cells.drop off),H,is,C)
 | _=>none
def LB {P:Program}(tb:Te P) (ρ:Operand→AV) (H:List A8) (is:List Nat) (C:Prop):Op→Option gL
 | .move x=>some (ρ x,H,is,C)
 | .assign x=>some (ρ x,H,is,C)
 | .pick x y z=>match ρ x with | .p (.bool b)=>some (bif b then ρ y else ρ z,H,is,C) | _=>none
 | .extract x i=>match ρ x with | .tup xs=>(match xs[i]? with | some v=>some (v,H,is,C) | none=>none) | _=>none
 | .nilCheck x=>match ρ x with | .ptr b o=>some (.ptr b o,H,is,C) | _=>none
 | .makeFunc fn first caps=>some (.fn fn (first.toList.map ρ) (caps.toList.map ρ),H,is,C)
 | .unOp .not T x=>match ρ x with | .p (.bool b)=>some (.p (.bool (!b)),H,is,C) | _=>none
 | .binOp op T x y U=>Wh op H is C (ρ x) (ρ y)
 | .fieldAddr T x i=>match tb.fd T with
  | some lay=>(match lay[i]? with | some (off,_+1)=>RC H is C off (ρ x) | _=>none)
  | none=>none
 | .build T parts=>match tb.fd T,tb.zr T with
  | some lay,some z=>(match Ff (lay[·]?) z (parts.toList.map fun p=>(p.1,ρ p.2)) with | some cs=>some (.agg cs,H,is,C) | none=>none)
  | _,_=>none
 | .load T x=>match tb.ty T with | some t=>QX H is C t (ρ x) | none=>none
 | .store T x y=>match tb.ty T with | some t=>Qd H is C t (ρ y) (ρ x) | none=>none
 | _=>none
section
variable {P:Program}{tb:Te P}{ρ:Operand→AV}{H H':List A8}{is is':List Nat}{C C':Prop}{v:AV}
 {dst:Option Tmp} {ty:TypeId} {pos:String} {aft:Array Edge} {g:Option (Nat×Bool)}
theorem FY {op:Op}(h:LB tb ρ H is C op=some (v,H',is',C')) (c:C'):C∧DT P ⟨dst,op,ty,pos,aft,g⟩ ρ H v H':=by
 unfold LB at h;split at h
 ·injection h with h;simp only[Prod.mk.injEq] at h;obtain⟨rfl,rfl,rfl,rfl⟩:=h;exact⟨c,Bm rfl⟩
 ·injection h with h;simp only[Prod.mk.injEq] at h;obtain⟨rfl,rfl,rfl,rfl⟩:=h;exact⟨c,OR rfl⟩
 ·split at h
  ·rename_i b hb;injection h with h;simp only[Prod.mk.injEq] at h;obtain⟨rfl,rfl,rfl,rfl⟩:=h;exact⟨c,W3 hb rfl⟩
  cases h
 ·split at h
  ·rename_i xs hx;split at h
   ·rename_i u hu;injection h with h;simp only[Prod.mk.injEq] at h;obtain⟨rfl,rfl,rfl,rfl⟩:=h;exact⟨c,Ry hx hu⟩
   cases h
  cases h
 ·split at h
  ·rename_i b o hx;injection h with h;simp only[Prod.mk.injEq] at h;obtain⟨rfl,rfl,rfl,rfl⟩:=h;exact⟨c,EJ hx⟩
  cases h
 ·injection h with h;simp only[Prod.mk.injEq] at h;obtain⟨rfl,rfl,rfl,rfl⟩:=h;exact⟨c,Fs rfl rfl⟩
 ·split at h
  ·rename_i b hb;injection h with h;simp only[Prod.mk.injEq] at h;obtain⟨rfl,rfl,rfl,rfl⟩:=h;exact⟨c,Yb hb⟩
  cases h
 ·rename_i op T x y U;generalize hx:ρ x=vx at h;generalize hy:ρ y=vy at h;unfold Wh at h;split at h
  ·rename_i k m k' n;split at h
   ·rename_i b hb;injection h with h;simp only[Prod.mk.injEq] at h;obtain⟨rfl,rfl,rfl,rfl⟩:=h;obtain⟨c,rfl⟩:=c;exact⟨c,Um hx hy hb⟩
   split at h
   ·rename_i r hr;injection h with h;simp only[Prod.mk.injEq] at h;obtain⟨rfl,rfl,rfl,rfl⟩:=h;obtain⟨⟨c,c1⟩,c2⟩:=c;refine⟨c,?_⟩;unfold en at hr;split at hr
    ·injection hr with hr;subst hr;exact EK hx hy c1 c2
    ·injection hr with hr;subst hr;exact Mn hx hy c1 c2
    ·injection hr with hr;subst hr;exact Y5 hx hy c1 c2
    cases hr
   cases h
  cases h
 ·rename_i T x i;split at h
  ·rename_i lay hl;split at h
   ·rename_i off sz hi;generalize hx:ρ x=vx at h;unfold RC at h;split at h
    ·injection h with h;simp only[Prod.mk.injEq] at h;obtain⟨rfl,rfl,rfl,rfl⟩:=h;exact⟨c,A3 (tb.hfd _ _ hl) hi hx⟩
    ·injection h with h;simp only[Prod.mk.injEq] at h;obtain⟨rfl,rfl,rfl,rfl⟩:=h;exact⟨c,DS (tb.hfd _ _ hl) hi hx⟩
    cases h
   cases h
  cases h
 ·rename_i T parts;split at h
  ·rename_i lay z hl hz;split at h
   ·rename_i cs hc;injection h with h;simp only[Prod.mk.injEq] at h;obtain⟨rfl,rfl,rfl,rfl⟩:=h;obtain⟨z',hz',rfl⟩:=tb.hzr _ _ hz;exact⟨c,CC (tb.hfd _ _ hl) hz' hc⟩
   cases h
  cases h
 ·rename_i T x;split at h
  ·rename_i t ht;have ht:=tb.hty _ _ ht;obtain⟨tb1,tn⟩:=t;generalize hx:ρ x=vx at h;unfold QX at h;split at h
   ·rename_i cells;cases tb1 with
    | true =>
     simp only[cond_true] at h;injection h with h;simp only[Prod.mk.injEq] at h;obtain⟨rfl,rfl,rfl,rfl⟩:=h;exact⟨c.1,Bg ht hx c.2⟩
    | false =>
     simp only[cond_false] at h;split at h
     ·injection h with h;simp only[Prod.mk.injEq] at h;obtain⟨rfl,rfl,rfl,rfl⟩:=h;exact⟨c,GX ht hx⟩
     cases h
   ·rename_i b o;split at h
    ·cases h
    rename_i i is1;split at h
    ·rename_i b' cs hi;cases tb1 with
     | true =>
      simp only[cond_true] at h;split at h
      ·injection h with h;simp only[Prod.mk.injEq] at h;obtain⟨rfl,rfl,rfl,rfl⟩:=h;obtain⟨⟨c,rfl⟩,c2⟩:=c;exact⟨c,BR ht hx hi c2⟩
      ·cases h
     | false =>
      simp only[cond_false] at h;split at h
      ·rename_i u hu;injection h with h;simp only[Prod.mk.injEq] at h;obtain⟨rfl,rfl,rfl,rfl⟩:=h;obtain⟨c,rfl⟩:=c;exact⟨c,CJ ht hx hi hu⟩
      cases h
    cases h
   cases h
  cases h
 ·rename_i T x y;split at h
  ·rename_i t ht;have ht:=tb.hty _ _ ht;obtain⟨tb1,tn⟩:=t;generalize hx:ρ x=vx at h;generalize hy:ρ y=vy at h;unfold Qd at h;split at h
   ·rename_i b o;split at h
    ·rename_i i w is1;simp only at h;split at h
     ·rename_i b' cs us n hi hu hn;split at h
      ·injection h with h;simp only[Prod.mk.injEq] at h;obtain⟨rfl,rfl,rfl,rfl⟩:=h;obtain⟨⟨⟨⟨c,rfl⟩,c1⟩,c2⟩,c3⟩:=c;exact⟨c,Cl ht hx hi (by rw[hy];exact hu) c1 c2 c3⟩
      split at h
      ·injection h with h;simp only[Prod.mk.injEq] at h;obtain⟨rfl,rfl,rfl,rfl⟩:=h;obtain⟨⟨⟨⟨c,rfl⟩,c1⟩,c2⟩,c3⟩:=c;exact⟨c,CF ht hx hi (by rw[hy];exact hu) c1 c2 c3⟩
      cases h
     cases h
    cases h
   cases h
  cases h
 cases h
def runs (tb:Te P) (ops:Array Oper) (n:Nat):Nat→Nat→(Nat→AV)→List A8→List Nat→Prop→Option ((Nat→AV)×List A8×Prop)
 | 0,_,τ,H,_,C=>some (τ,H,C)
 | m+1,k,τ,H,is,C =>
  match ops[k]? with
  | none=>none
  | some ⟨dst,op,_,_,_,g⟩ =>
   bif Fp dst n then
    match g with
    | none =>
     (match LB tb (ev τ) H is C op with
     | some (v,H',is',C')=>runs tb ops n m (k+1) (put τ dst v) H' is' C'
     | none=>none)
    | some (j,want) =>
     match (ops[j]?).bind (·.dst) with
     | none=>none
     | some d =>
      match τ d with
      | .p (.bool b) =>
       bif b==want then
        (match LB tb (ev τ) H is C op with
        | some (v,H',is',C')=>runs tb ops n m (k+1) (put τ dst v) H' is' C'
        | none=>none)
       else runs tb ops n m (k+1) (put τ dst (.tup [])) H is C
      | .tup []=>runs tb ops n m (k+1) (put τ dst (.tup [])) H is C
      | _=>none
   else none
end
section
variable {P:Program}{r:Option Nat}{ops:Array Oper}{n:Nat}{D:List DV}{Q:CV→Be→Prop}
theorem K4 (tb:Te P):∀(m k:Nat) {τ τ':Nat→AV}{H H':List A8}{is:List Nat}{C C':Prop},runs tb ops n m k τ H is C=some (τ',H',C')→C' →
  C∧(AL P r ops (k+m) ⟨n,τ',H',D⟩ Q→AL P r ops k ⟨n,τ,H,D⟩ Q)
 | 0,k,τ,τ',H,H',is,C,C',h,c=>by
  simp only[runs,Option.some.injEq,Prod.mk.injEq] at h;obtain⟨rfl,rfl,rfl⟩:=h;exact⟨c,fun h=>h⟩
 | m+1,k,τ,τ',H,H',is,C,C',h,c=>by
  rw[runs] at h;split at h
  ·cases h
  rename_i dst op ty pos aft g ho;cases hd:Fp dst n with
  | false=>rw[hd] at h;cases h
  | true =>
   rw[hd,cond_true] at h;rw[show k+(m+1)=k+1+m by omega];split at h
   ·split at h
    ·rename_i v H1 is1 C1 hv;obtain⟨c1,ih⟩:=K4 tb m (k+1) h c;obtain⟨c2,hop⟩:=FY (dst:=dst) (ty:=ty) (pos:=pos) (aft:=aft) (g:=none) hv c1;exact⟨c2,fun hq=>Mj ho hd hop (ih hq)⟩
    cases h
   rename_i j want;split at h
   ·cases h
   rename_i d hj;split at h
   ·rename_i b hb;cases hw:b==want with
    | true =>
     rw[hw,cond_true] at h;split at h
     ·rename_i v H1 is1 C1 hv;obtain⟨c1,ih⟩:=K4 tb m (k+1) h c;obtain⟨c2,hop⟩:=FY (dst:=dst) (ty:=ty) (pos:=pos) (aft:=aft) (g:=some (j,want)) hv c1;have hbw:b=want:=by simpa using hw
      exact⟨c2,fun hq=>Sb ho hj (by rw[hb,hbw]) hd hop (ih hq)⟩
     ·cases h
    | false =>
     rw[hw,cond_false] at h;obtain⟨c1,ih⟩:=K4 tb m (k+1) h c;exact⟨c1,fun hq=>Yi ho hj hb hw hd (ih hq)⟩
   ·rename_i hb;obtain⟨c1,ih⟩:=K4 tb m (k+1) h c;exact⟨c1,fun hq=>Wa ho hj hb hd (ih hq)⟩
   cases h
end
def look {α:Type}:List (Nat×α)→Nat→Option α
 | [],_=>none
 | (a,v)::r,t=>bif Nat.beq a t then some v else look r t
def Rb {α:Type}(f:Nat→Option α):List (Nat×α)→Prop
 | []=>True
 | (a,v)::r=>f a=some v∧Rb f r
theorem Ml {α:Type}{f:Nat→Option α}{T:Nat}{v:α}:∀{l:List (Nat×α)},Rb f l→look l T=some v→f T=some v
 | [],_,h=>by cases h
 | (a,u)::r,ha,h=>by
  unfold look at h;cases hb:Nat.beq a T with
  | true=>rw[hb,cond_true] at h;injection h with h;subst h;rw[←Nat.eq_of_beq_eq_true hb];exact ha.1
  | false=>rw[hb,cond_false] at h;exact Ml ha.2 h
def Qi (P:Program) (T:Nat):Option (List AV):=(zeroOf P T).map fun z=>z.cells.toList.map EH
def gm {P:Program}{fd:List (Nat×List (Nat×Nat))}{ty:List (Nat×Bool×Nat)}{zr:List (Nat×List AV)}(hf:Rb (fieldsOf P) fd) (ht:Rb (DY P) ty) (hz:Rb (Qi P) zr):Te P where
 fd:=look fd
 ty:=look ty
 zr:=look zr
 hfd _ _ h:=Ml hf h
 hty _ _ h:=Ml ht h
 hzr T l h:=by
  have h1:=Ml hz h;unfold Qi at h1;cases hq:zeroOf P T with
  | none=>rw[hq] at h1;cases h1
  | some z=>rw[hq] at h1;injection h1 with h1;exact⟨z,rfl,h1⟩
end Go.Abs
namespace Go.Abs
open Go.Eu
section
variable {P:Program}{r:Option Nat}{ops:Array Oper}{n k:Nat}{D:List DV}{Q:CV→Be→Prop}{τ τ':Nat→AV}{H H':List A8}{C:Prop}
theorem Zv {C:Prop}(c:C:=by repeat' first | exact trivial | refine And.intro ?_ ?_ | (simp only[List.length_map,BF,Xn,OT,Kt,HB,Lg,Vm,Fg,HY];done) | exact FU _ | exact Z1 _ | exact Y6 _ | exact Zk _ | exact Za _ | exact ZA _ | exact ZJ _ | exact aM _ | exact rfl | omega):C:=c
theorem A0 (tb:Te P) (m:Nat) (is:List Nat) (h:runs tb ops n m k τ H is True=some (τ',H',C)) (next:AL P r ops (k+m) ⟨n,τ',H',D⟩ Q) (c:C:=by exact Zv):AL P r ops k ⟨n,τ,H,D⟩ Q:=(K4 tb m k h c).2 next
theorem Aq (tb:Te P) (m:Nat) (is:List Nat) (h:runs tb ops n m k τ H is True=some (τ',H',C)) (next:Q .normal ⟨n,τ',H',D⟩) (hk:ops.size - (k+m)=0:=by exact rfl) (c:C:=by exact Zv):AL P r ops k ⟨n,τ,H,D⟩ Q:=A0 tb m is h (Bo hk next) c
theorem Au {id:Nat}{c₂:Code}(tb:Te P) (m:Nat) (is:List Nat) (h:runs tb ops n m 0 τ H is True=some (τ',H',C)) (next:Gj P r c₂ ⟨n,τ',H',D⟩ Q) (hk:ops.size - (0+m)=0:=by exact rfl) (c:C:=by exact Zv):Gj P r (.seq (.region id ops false) c₂) ⟨n,τ,H,D⟩ Q:=Ay (Aq tb m is h next hk c)
end
end Go.Abs
namespace Go.Abs
section
variable {P:Program}{tb:Te P}{ρ:Operand→AV}{H H':List A8}{is is':List Nat}{C C':Prop}{v:AV}
 {dst:Option Tmp} {ty:TypeId} {pos:String} {aft:Array Edge} {g:Option (Nat×Bool)}
theorem VJ {op:Op}(h:LB tb ρ [] [] C op=some (v,H',is',C')) (H:List A8) (is:List Nat):LB tb ρ H is C op=some (v,H,is,C'):=by
 unfold LB at h ⊢;split at h
 ·injection h with h;simp only[Prod.mk.injEq] at h;obtain⟨rfl,rfl,rfl,rfl⟩:=h;rfl
 ·injection h with h;simp only[Prod.mk.injEq] at h;obtain⟨rfl,rfl,rfl,rfl⟩:=h;rfl
 ·split at h
  ·rename_i b hb;injection h with h;simp only[Prod.mk.injEq] at h;obtain⟨rfl,rfl,rfl,rfl⟩:=h;simp only[hb]
  cases h
 ·split at h
  ·rename_i xs hx;split at h
   ·rename_i u hu;injection h with h;simp only[Prod.mk.injEq] at h;obtain⟨rfl,rfl,rfl,rfl⟩:=h;simp only[hx,hu]
   cases h
  cases h
 ·split at h
  ·rename_i b o hx;injection h with h;simp only[Prod.mk.injEq] at h;obtain⟨rfl,rfl,rfl,rfl⟩:=h;simp only[hx]
  cases h
 ·injection h with h;simp only[Prod.mk.injEq] at h;obtain⟨rfl,rfl,rfl,rfl⟩:=h;rfl
 ·split at h
  ·rename_i b hb;injection h with h;simp only[Prod.mk.injEq] at h;obtain⟨rfl,rfl,rfl,rfl⟩:=h;simp only[hb]
  cases h
 ·rename_i op T x y U
  try dsimp only
  generalize hx:ρ x=vx at h ⊢;generalize hy:ρ y=vy at h ⊢;unfold Wh at h ⊢;split at h
  ·rename_i k m k' n
   try dsimp only
   split at h
   ·rename_i b hb;injection h with h;simp only[Prod.mk.injEq] at h;obtain⟨rfl,rfl,rfl,rfl⟩:=h;simp only[hb]
   rename_i hb;split at h
   ·rename_i r hr;injection h with h;simp only[Prod.mk.injEq] at h;obtain⟨rfl,rfl,rfl,rfl⟩:=h;simp only[hb,hr]
   cases h
  cases h
 ·rename_i T x i;split at h
  ·rename_i lay hl;split at h
   ·rename_i off sz hi
    try dsimp only
    generalize hx:ρ x=vx at h ⊢;unfold RC at h ⊢;split at h
    ·injection h with h;simp only[Prod.mk.injEq] at h;obtain⟨rfl,rfl,rfl,rfl⟩:=h;simp only[hl,hi]
    ·injection h with h;simp only[Prod.mk.injEq] at h;obtain⟨rfl,rfl,rfl,rfl⟩:=h;simp only[hl,hi]
    cases h
   cases h
  cases h
 ·rename_i T parts;split at h
  ·rename_i lay z hl hz;split at h
   ·rename_i cs hc;injection h with h;simp only[Prod.mk.injEq] at h;obtain⟨rfl,rfl,rfl,rfl⟩:=h;simp only[hl,hz,hc]
   cases h
  cases h
 ·rename_i T x;split at h
  ·rename_i t ht
   try dsimp only
   try rw[ht]
   try dsimp only
   generalize hx:ρ x=vx at h ⊢;unfold QX at h ⊢;split at h
   ·rename_i cells
    try dsimp only
    cases hb:t.1 with
    | true =>
     rw[hb,cond_true] at h;injection h with h;simp only[Prod.mk.injEq] at h;obtain⟨rfl,rfl,rfl,rfl⟩:=h;rfl
    | false =>
     rw[hb,cond_false] at h;rw[cond_false];split at h
     ·injection h with h;simp only[Prod.mk.injEq] at h;obtain⟨rfl,rfl,rfl,rfl⟩:=h;rfl
     cases h
   ·cases h
   cases h
  cases h
 ·rename_i T x y;split at h
  ·rename_i t ht;generalize hx:ρ x=vx at h;unfold Qd at h;split at h
   ·cases h
   cases h
  cases h
 cases h
theorem VL {T:TypeId}{x:Operand}{ob:A8}{i:Nat}(h:LB tb ρ [ob] [0] C (.load T x)=some (v,H',is',C')) (h0:LB tb ρ [] [] C (.load T x)=none) (hi:H[i]?=some ob):LB tb ρ H [i] C (.load T x)=some (v,H,[],C'):=by
 unfold LB at h h0 ⊢;dsimp only at h h0 ⊢;split at h
 ·rename_i t ht
  try simp only[ht] at h0
  skip
  generalize hx:ρ x=vx at h h0 ⊢;unfold QX at h h0 ⊢;split at h
  ·rename_i cells;dsimp only at h0;cases hb:t.1 with
   | true=>rw[hb,cond_true] at h0;cases h0
   | false =>
    rw[hb,cond_false] at h h0;split at h
    ·cases h0
    cases h
  ·rename_i b o;dsimp only at h ⊢;rw[hi];simp only[List.getElem?_cons_zero] at h;cases ob with
   | box b' cs =>
    dsimp only at h ⊢;cases hb:t.1 with
    | true =>
     rw[hb,cond_true] at h;rw[cond_true];split at h
     ·injection h with h;simp only[Prod.mk.injEq] at h;obtain⟨rfl,rfl,rfl,rfl⟩:=h;rfl
     ·cases h
    | false =>
     rw[hb,cond_false] at h;rw[cond_false];split at h
     ·rename_i u hu;injection h with h;simp only[Prod.mk.injEq] at h;obtain⟨rfl,rfl,rfl,rfl⟩:=h;rfl
     ·cases h
   | _=>cases h
  cases h
 cases h
def PZ (tb:Te P) (ops:Array Oper) (k:Nat) (ρ:Operand→AV) (H:List A8) (rd:Sj) (ef:RH) (is:List Nat) (C:Prop) (op:Op):Option (Sp×List Nat×Prop) :=
 match LB tb ρ [] [] C op with
 | some (v,_,_,C')=>some (.free v,is,C')
 | none =>
  match op with
  | .load T x =>
   match is with
   | i::is' =>
    match H[i]? with
    | some ob =>
     match LB tb ρ [ob] [0] C (.load T x) with
     | some (v,_,_,C')=>some (.read [ob] v,is',C'∧Rx ops k ob ef)
     | none=>none
    | none=>none
   | []=>none
  | .store T x y =>
   match LB tb ρ H is C (.store T x y) with
   | some (v,H',is',C')=>some (.eff v H',is',C'∧IJ ops k H H' rd)
   | none=>none
  | _=>none
theorem Jd {ops:Array Oper}{k:Nat}{τ:Nat→AV}{rd:Sj}{ef:RH}{op:Op}{s:Sp}(h:PZ tb ops k (ev τ) H rd ef is C op=some (s,is',C')) (c:C') (hw:CY ops ⟨0,τ,[],[]⟩ ⟨dst,op,ty,pos,aft,g⟩) :
  C∧YO P ops ⟨dst,op,ty,pos,aft,g⟩ τ H s∧eG ops k H rd ef s:=by
 unfold PZ at h;split at h
 ·rename_i v H1 is1 C1 hv;injection h with h;simp only[Prod.mk.injEq] at h;obtain⟨rfl,rfl,rfl⟩:=h;exact⟨(FY (dst:=dst) (ty:=ty) (pos:=pos) (aft:=aft) (g:=g) hv c).1,⟨hw,fun H=>(FY (VJ hv H []) c).2⟩,Ap⟩
 rename_i hn;split at h
 ·split at h
  ·rename_i i is2;split at h
   ·rename_i ob hi;split at h
    ·rename_i v H1 is1 C1 hv;injection h with h;simp only[Prod.mk.injEq] at h;obtain⟨rfl,rfl,rfl⟩:=h;obtain⟨c1,c2⟩:=c;refine⟨(FY (dst:=dst) (ty:=ty) (pos:=pos) (aft:=aft) (g:=g) hv c1).1,⟨hw,fun ob' hm=>?_,fun H hm=>?_⟩,fun ob' hm=>?_⟩
     ·rw[List.mem_singleton] at hm;subst hm;exact List.mem_of_getElem? hi
     ·obtain⟨i',hi'⟩:=List.mem_iff_getElem?.1 (hm ob List.mem_cons_self);exact(FY (VL hv hn hi') c1).2
     rw[List.mem_singleton] at hm;subst hm;exact c2
    cases h
   cases h
  cases h
 ·split at h
  ·rename_i v H1 is1 C1 hv;injection h with h;simp only[Prod.mk.injEq] at h;obtain⟨rfl,rfl,rfl⟩:=h;obtain⟨c1,c2⟩:=c;obtain⟨c0,hop⟩:=FY (dst:=dst) (ty:=ty) (pos:=pos) (aft:=aft) (g:=g) hv c1;exact⟨c0,⟨hw,hop⟩,c2⟩
  cases h
 cases h
def eR (k:Nat) (s:Sp) (C:Prop):List (Nat×Sp)→Prop
 | []=>C
 | p::r=>C∧F6 k s (p::r)
theorem JX {k:Nat}{s:Sp}{C:Prop}:∀{fx:List (Nat×Sp)},eR k s C fx→C∧F6 k s fx
 | [],h=>⟨h,trivial⟩
 | p::r,h=>h
abbrev kN:=(Nat→AV)×List A8×Sj×RH×List Bool×Prop
def Qs (k:Nat) (τ:Nat→AV) (dst:Option Tmp) (H:List A8) (rd:Sj) (ef:RH) (effs:List Bool) (fx:List (Nat×Sp)) (f:(Nat→AV)→List A8→Sj→RH→List Bool→List Nat→Prop→Option kN):Option (Sp×List Nat×Prop)→Option kN
 | some (.free v,is,C)=>f (put τ dst v) H rd ef (false::effs) is (eR k (.free v) C fx)
 | some (.read [ob] v,is,C)=>f (put τ dst v) H ((k,ob)::rd) ef (false::effs) is (eR k (.read [ob] v) C fx)
 | some (.eff v H',is,C)=>f (put τ dst v) H' rd ((k,H,H')::ef) (true::effs) is (eR k (.eff v H') C fx)
 | _=>none
def KB (tb:Te P) (ops:Array Oper) (opn:Nat→Bool) (fx:List (Nat×Sp)):Nat→Nat→(Nat→AV)→List A8→Sj→RH→List Bool→List Nat→Prop→Option kN
 | 0,_,τ,H,rd,ef,effs,_,C=>some (τ,H,rd,ef,effs,C)
 | m+1,k,τ,H,rd,ef,effs,is,C =>
  match ops[k]? with
  | none=>none
  | some ⟨dst,op,_,_,_,g⟩ =>
   bif opn k then none else
    match g with
    | none=>Qs k τ dst H rd ef effs fx (KB tb ops opn fx m (k+1)) (PZ tb ops k (ev τ) H rd ef is C op)
    | some (j,want) =>
     match (ops[j]?).bind (·.dst) with
     | none=>none
     | some d =>
      match τ d with
      | .p (.bool b) =>
       bif b==want then Qs k τ dst H rd ef effs fx (KB tb ops opn fx m (k+1)) (PZ tb ops k (ev τ) H rd ef is C op)
       else KB tb ops opn fx m (k+1) (put τ dst (.tup [])) H rd ef (false::effs) is (eR k .skip C fx)
      | .tup []=>KB tb ops opn fx m (k+1) (put τ dst (.tup [])) H rd ef (false::effs) is (eR k .skip C fx)
      | _=>none
end
section
variable {P:Program}{ops:Array Oper}{n:Nat}{τ₀:Nat→AV}{D:List DV}{Q:CV→Be→Prop}{opn:Nat→Bool}{fx:List (Nat×Sp)}
theorem Jt (tb:Te P):∀(m k:Nat) {τ τ':Nat→AV}{H H':List A8}{rd rd':Sj}{ef ef':RH}{effs effs':List Bool}{is:List Nat}{C C':Prop},KB tb ops opn fx m k τ H rd ef effs is C=some (τ',H',rd',ef',effs',C')→C' →
  C∧(Dr P ops n τ₀ D Q opn (k+m) τ' H' rd' ef' effs' fx→Dr P ops n τ₀ D Q opn k τ H rd ef effs fx)
 | 0,k,τ,τ',H,H',rd,rd',ef,ef',effs,effs',is,C,C',h,c=>by
  simp only[KB,Option.some.injEq,Prod.mk.injEq] at h;obtain⟨rfl,rfl,rfl,rfl,rfl,rfl⟩:=h;exact⟨c,fun h=>h⟩
 | m+1,k,τ,τ',H,H',rd,rd',ef,ef',effs,effs',is,C,C',h,c=>by
  rw[KB] at h;split at h
  ·cases h
  rename_i dst op ty pos aft g ho;cases hn:opn k with
  | true=>rw[hn] at h;cases h
  | false =>
   rw[hn,cond_false] at h;rw[show k+(m+1)=k+1+m by omega];have key:CY ops ⟨0,τ,[],[]⟩ ⟨dst,op,ty,pos,aft,g⟩→Qs k τ dst H rd ef effs fx (KB tb ops opn fx m (k+1)) (PZ tb ops k (ev τ) H rd ef is C op)=some (τ',H',rd',ef',effs',C')→C∧(Dr P ops n τ₀ D Q opn (k+1+m) τ' H' rd' ef' effs' fx→Dr P ops n τ₀ D Q opn k τ H rd ef effs fx):=by
    intro hw h;generalize hs:PZ tb ops k (ev τ) H rd ef is C op=so at h;unfold Qs at h;split at h
    ·rename_i v is1 C1;obtain⟨c1,ih⟩:=Jt tb m (k+1) h c;obtain⟨c1,hfx⟩:=JX c1;obtain⟨c2,hok,howe⟩:=Jd hs c1 hw;exact⟨c2,fun hq=> .step (.free v) ho (.inl hn) hok howe hfx (ih hq)⟩
    ·rename_i ob v is1 C1;obtain⟨c1,ih⟩:=Jt tb m (k+1) h c;obtain⟨c1,hfx⟩:=JX c1;obtain⟨c2,hok,howe⟩:=Jd hs c1 hw;exact⟨c2,fun hq=> .step (.read [ob] v) ho (.inl hn) hok howe hfx (ih hq)⟩
    ·rename_i v H1 is1 C1;obtain⟨c1,ih⟩:=Jt tb m (k+1) h c;obtain⟨c1,hfx⟩:=JX c1;obtain⟨c2,hok,howe⟩:=Jd hs c1 hw;exact⟨c2,fun hq=> .step (.eff v H1) ho (.inl hn) hok howe hfx (ih hq)⟩
    cases h
   split at h
   ·exact key Ag h
   rename_i j want;split at h
   ·cases h
   rename_i d hj;split at h
   ·rename_i b hb;cases hw:b==want with
    | true =>
     rw[hw,cond_true] at h;have hbw:b=want:=by simpa using hw
     exact key (by simp only[CY];exact⟨d,hj,by rw[hb,hbw]⟩) h
    | false =>
     rw[hw,cond_false] at h;obtain⟨c1,ih⟩:=Jt tb m (k+1) h c;obtain⟨c1,hfx⟩:=JX c1;exact⟨c1,fun hq=>aJ ho hn hj hb hw hfx (ih hq)⟩
   ·rename_i hb;obtain⟨c1,ih⟩:=Jt tb m (k+1) h c;obtain⟨c1,hfx⟩:=JX c1;exact⟨c1,fun hq=>W7 ho hn hj hb hfx (ih hq)⟩
   cases h
variable {k:Nat}{τ τ':Nat→AV}{H H':List A8}{rd rd':Sj}{ef ef':RH}{effs effs':List Bool}{C:Prop}
theorem cQ {C:Prop}(c:C:=by repeat' first | exact trivial | refine And.intro ?_ ?_ | ((refine Or.inr (And.intro ?_ ?_)<;>repeat (first | exact List.Mem.head _ | apply List.Mem.tail));done) | exact Or.inl Ai | exact Zv):C:=c
theorem Bf (tb:Te P) (m:Nat) (is:List Nat) (h:KB tb ops opn fx m k τ H rd ef effs is True=some (τ',H',rd',ef',effs',C)) (next:Dr P ops n τ₀ D Q opn (k+m) τ' H' rd' ef' effs' fx) (c:C:=by exact cQ):Dr P ops n τ₀ D Q opn k τ H rd ef effs fx:=(Jt tb m k h c).2 next
theorem CE (tb:Te P) (m:Nat) (is:List Nat) (h:KB tb ops opn fx m k τ H rd ef effs is True=some (τ',H',rd',ef',effs',C)) (next:Q .normal ⟨n,τ',H',D⟩) (hk:k+m=ops.size:=by exact rfl) (chk:KD ops n effs'.reverse=true:=by kernel_rfl) (c:C:=by exact cQ):Dr P ops n τ₀ D Q opn k τ H rd ef effs fx:=Bf tb m is h (KZ hk chk next) c
end
end Go.Abs
namespace Go.Proofs.YtifphifongokcaaGreat
open Go.Abs
def mf:List (Nat×Bool×Nat):=[(25,true,5),(3,false,1),(23,false,1),(63,true,2),(61,false,1),(9,false,1),(31,true,23),(22,false,1),(36,true,10),(60,true,2),(100,false,1),(39,false,1),(231,true,1),(72,true,4),(26,false,1),(121,false,1),(4,false,1),(241,true,9),(286,false,1),(34,false,1),(112,true,8),(47,false,1),(376,false,1),(300,false,1),(110,false,1),(28,true,7),(29,false,1),(148,false,1),(70,false,1),(86,true,3),(152,true,10),(187,true,4),(76,true,6),(146,false,1),(213,false,1),(44,false,1),(161,true,7),(114,true,15),(335,false,1),(83,true,7),(78,false,1),(283,false,1),(289,false,1),(219,false,1),(220,false,1),(205,false,1),(238,false,1),(273,false,1),(302,true,9),(203,true,65),(147,false,1),(225,true,1),(145,false,1),(200,false,1),(223,false,1),(226,false,1),(251,true,0),(260,true,13),(267,true,0),(269,false,1),(317,false,1),(159,true,10)]
def oH:List (Nat×List (Nat×Nat)):=[(25,[(0,1),(1,1),(2,1),(3,1),(4,1)]),(31,[(0,1),(1,1),(2,1),(3,5),(8,5),(13,1),(14,1),(15,7),(22,1)]),(63,[(0,1),(1,1)]),(36,[(0,1),(1,1),(2,1),(3,1),(4,5),(9,1)]),(60,[(0,1),(1,1)]),(72,[(0,1),(1,1),(2,1),(3,1)]),(241,[(0,1),(1,1),(2,1),(3,1),(4,5)]),(28,[(0,1),(1,5),(6,1)]),(150,[(0,1),(1,1),(2,1),(3,1)]),(112,[(0,1),(1,5),(6,1),(7,1)]),(304,[(0,9),(9,1)]),(76,[(0,1),(1,5)]),(302,[(0,1),(1,1),(2,5),(7,1),(8,1)]),(215,[(0,1),(1,1)]),(80,[(0,1)]),(86,[(0,1),(1,1),(2,1)]),(178,[(0,1),(1,1)]),(187,[(0,1),(1,1),(2,1),(3,1)]),(202,[(0,1),(1,1),(2,1),(3,1),(4,1)]),(114,[(0,1),(1,5),(6,1),(7,8)]),(271,[(0,1),(1,1),(2,1)]),(83,[(0,1),(1,1),(2,5)]),(254,[(0,1),(1,1)]),(297,[(0,1),(1,1),(2,1)]),(337,[(0,1),(1,1)]),(159,[(0,1),(1,1),(2,8)]),(326,[(0,5),(5,1),(6,1)]),(356,[(0,13)]),(161,[(0,5),(5,1),(6,1)]),(294,[(0,1),(1,1)]),(152,[(0,5),(5,5)]),(222,[(0,1)]),(225,[(0,1)]),(231,[(0,1)]),(292,[(0,1),(1,1)]),(251,[]),(267,[])]
def mz:List (Nat×List AV):=[(25,[.p (.int .i64 0),.p (.int .i64 0),.p (.str ⟨#[]⟩),.p .nils,.p .nils]),(63,[.p (.int .i64 0),.p .nils]),(202,[.p (.bool false),.p (.bool false),.p (.int .i64 0),.p (.int .i64 0),.p (.int .i64 0)]),(31,[.p (.int .i64 0),.p (.str ⟨#[]⟩),.p (.int .i64 0),.p (.int .i64 0),.p (.int .i64 0),.p (.str ⟨#[]⟩),.p .nils,.p .nils,.p (.int .i64 0),.p (.int .i64 0),.p (.str ⟨#[]⟩),.p .nils,.p .nils,.p (.int .i64 0),.p .nils,.p (.int .i64 0),.p (.int .i64 0),.p (.int .i64 0),.p (.str ⟨#[]⟩),.p .nils,.p .nils,.p .nils,.p .nils]),(60,[.p (.int .i64 0),.p (.int .i64 0)]),(36,[.p (.str ⟨#[]⟩),.p (.int .i64 0),.p .nils,.p .nils,.p (.int .i64 0),.p (.int .i64 0),.p (.str ⟨#[]⟩),.p .nils,.p .nils,.p .nils]),(28,[.p (.int .i64 0),.p (.int .i64 0),.p (.int .i64 0),.p (.str ⟨#[]⟩),.p .nils,.p .nils,.p .nils]),(72,[.p (.str ⟨#[]⟩),.p .nils,.p .nils,.p .nils]),(304,[.p (.int .i64 0),.p (.int .i64 0),.p (.int .i64 0),.p (.int .i64 0),.p (.str ⟨#[]⟩),.p .nils,.p .nils,.p .nils,.p .nilFn,.p .nils]),(241,[.p (.int .i64 0),.p (.int .i64 0),.p (.int .i64 0),.p (.int .i64 0),.p (.int .i64 0),.p (.int .i64 0),.p (.str ⟨#[]⟩),.p .nils,.p .nils]),(302,[.p (.int .i64 0),.p (.int .i64 0),.p (.int .i64 0),.p (.int .i64 0),.p (.str ⟨#[]⟩),.p .nils,.p .nils,.p .nils,.p .nilFn]),(80,[.p .nils]),(76,[.p (.str ⟨#[]⟩),.p (.int .i64 0),.p (.int .i64 0),.p (.str ⟨#[]⟩),.p .nils,.p .nils]),(187,[.p (.str ⟨#[]⟩),.p (.str ⟨#[]⟩),.p .nils,.p .nils]),(225,[.p .nilFn]),(251,[]),(294,[.nilp,.nilp]),(267,[]),(86,[.p (.int .i64 0),.p .nils,.p .nils]),(152,[.p (.int .i64 0),.p (.int .i64 0),.p (.str ⟨#[]⟩),.p .nils,.p .nils,.p (.int .i64 0),.p (.int .i64 0),.p (.str ⟨#[]⟩),.p .nils,.p .nils]),(178,[.p (.int .i64 0),.p (.int .i64 0)]),(215,[.p .nils,.p (.int .i64 0)]),(326,[.p (.int .i64 0),.p (.int .i64 0),.p (.str ⟨#[]⟩),.p .nils,.p .nils,.nilp,.p .nilIface]),(83,[.p .nils,.p .nils,.p (.int .i64 0),.p (.int .i64 0),.p (.str ⟨#[]⟩),.p .nils,.p .nils]),(150,[.nilp,.p .nils,.p .nils,.p .nils]),(161,[.p (.int .i64 0),.p (.int .i64 0),.p (.str ⟨#[]⟩),.p .nils,.p .nils,.p .nils,.p (.int .i64 0)]),(222,[.p (.int .i64 0)]),(231,[.p .nils]),(254,[.p .nils,.p (.int .i64 0)]),(271,[.p .nils,.p (.int .i64 0),.p (.int .i64 0)]),(292,[.nilp,.p .nilFn]),(297,[.nilp,.nilp,.nilp]),(112,[.p (.int .i64 0),.p (.int .i64 0),.p (.int .i64 0),.p (.str ⟨#[]⟩),.p .nils,.p .nils,.p (.int .i64 0),.p .nils]),(337,[.p .any,.p (.int .i64 0)]),(356,[.p .nilFn,.p .nilFn,.p .nilFn,.p .nilFn,.p .nilFn,.p .nilFn,.p .nilFn,.p .nilFn,.p .nilFn,.p .nilFn,.p .nilFn,.p .nilFn,.p .nilFn])]
theorem mh:Rb (DY Tryz.prog) mf:=And.intro Ai <| And.intro Ai <| And.intro Ai <| And.intro Ai <| And.intro Ai <| And.intro Ai <| And.intro Ai <| And.intro Ai <| And.intro Ai <| And.intro Ai <| And.intro Ai <| And.intro Ai <| And.intro Ai <| And.intro Ai <| And.intro Ai <| And.intro Ai <| And.intro Ai <| And.intro Ai <| And.intro Ai <| And.intro Ai <| And.intro Ai <| And.intro Ai <| And.intro Ai <| And.intro Ai <| And.intro Ai <| And.intro Ai <| And.intro Ai <| And.intro Ai <| And.intro Ai <| And.intro Ai <| And.intro Ai <| And.intro Ai <| And.intro Ai <| And.intro Ai <| And.intro Ai <| And.intro Ai <| And.intro Ai <| And.intro Ai <| And.intro Ai <| And.intro Ai <| And.intro Ai <| And.intro Ai <| And.intro Ai <| And.intro Ai <| And.intro Ai <| And.intro Ai <| And.intro Ai <| And.intro Ai <| And.intro Ai <| And.intro Ai <| And.intro Ai <| And.intro Ai <| And.intro Ai <| And.intro Ai <| And.intro Ai <| And.intro Ai <| And.intro Ai <| And.intro Ai <| And.intro Ai <| And.intro Ai <| And.intro Ai <| And.intro Ai <| trivial
theorem n9:Rb (fieldsOf Tryz.prog) oH:=And.intro Ai <| And.intro Ai <| And.intro Ai <| And.intro Ai <| And.intro Ai <| And.intro Ai <| And.intro Ai <| And.intro Ai <| And.intro Ai <| And.intro Ai <| And.intro Ai <| And.intro Ai <| And.intro Ai <| And.intro Ai <| And.intro Ai <| And.intro Ai <| And.intro Ai <| And.intro Ai <| And.intro Ai <| And.intro Ai <| And.intro Ai <| And.intro Ai <| And.intro Ai <| And.intro Ai <| And.intro Ai <| And.intro Ai <| And.intro Ai <| And.intro Ai <| And.intro Ai <| And.intro Ai <| And.intro Ai <| And.intro Ai <| And.intro Ai <| And.intro Ai <| And.intro Ai <| And.intro Ai <| And.intro Ai <| trivial
theorem oC:Rb (Qi Tryz.prog) mz:=And.intro Ai <| And.intro Ai <| And.intro Ai <| And.intro Ai <| And.intro Ai <| And.intro Ai <| And.intro Ai <| And.intro Ai <| And.intro Ai <| And.intro Ai <| And.intro Ai <| And.intro Ai <| And.intro Ai <| And.intro Ai <| And.intro Ai <| And.intro Ai <| And.intro Ai <| And.intro Ai <| And.intro Ai <| And.intro Ai <| And.intro Ai <| And.intro Ai <| And.intro Ai <| And.intro Ai <| And.intro Ai <| And.intro Ai <| And.intro Ai <| And.intro Ai <| And.intro Ai <| And.intro Ai <| And.intro Ai <| And.intro Ai <| And.intro Ai <| And.intro Ai <| And.intro Ai <| trivial
def Az:Te Tryz.prog:=gm n9 mh oC
end Go.Proofs.YtifphifongokcaaGreat
namespace Go.Proofs.YtifphifongokcaaGreat
open Go.Abs Go.Eu
theorem _root_.Go.AA {α:Prop}(h:α:=by first | exact List.Sublist.refl _ | exact .cons _ (.refl _) | exact .cons _ (.cons _ (.refl _)) | exact .cons _ (.cons _ (.cons _ (.refl _))) | exact .cons _ (.cons _ (.cons _ (.cons _ (.refl _))))):α:=h
theorem _root_.Go.Al {α:Prop}(h:α:=by simp_all):α:=h
theorem _root_.Go.AK {α:Prop}(h:α:=by first | exact List.Sublist.refl _ | exact List.sublist_cons_self _ _):α:=h
theorem Zs:∀(a b:CN),a.vars.length<Cb→D3 Tryz.prog 95 [LV a,LV b] (.p (.bool (Iy a b))):=by
 intro a b hb;obtain⟨ac,av⟩:=a;obtain⟨bc,bv⟩:=b;simp only[Cb] at hb;refine A1 Tryz.func95 O jS (n:=38) O O (Ay (BE O (BT O) fun b2=>BE O (BT O) fun b3=>Aq Az 1 [] O (As (As (Bj [0,1,2,3,4,5] 19 (fun y=>y= .p (.bool (ac !=bc||(av.length:Int) !=bv.length))) ?_ ?_)))))
 ·refine Ax (A0 Az 6 [1,0] O (BS 11 O (fun g1=>?_) (fun g1=>?_)))
  ·(try simp only[sd] at g1);exact Aq Az 8 [] O (⟨O,O,AK,pB Al,⟨O,O,O,O,O,O,Ap⟩⟩)
  (try simp only[sd] at g1);exact A0 Az 2 [1] O (BK O (DK GY O) (A0 Az 2 [0] O (BK O (DK GY O) (Aq Az 2 [] O (⟨O,O,AK,pB Al,⟨O,O,O,O,O,O,Ap⟩⟩)))))
 rintro _ rfl;refine A2 O (fun c2=>?_) (fun c2=>?_)
 ·(try simp only[sd] at c2);refine Au Az 1 [] O (A4 ⟨O,_,[],G6 O,List.nil_sublist _,?_⟩);exact⟨pB (Di (fun h=>by simp at h;simp[h] at *)).symm,rfl⟩
 (try simp only[sd] at c2);have h1:ac=bc∧av.length=bv.length:=by simp at c2;omega
 refine A5 (As (Au Az 1 [] O (BA (Nb (av.length) (fun i=>agree av bv i) (fun i=>⟨38,mk [(2,.ptr b2 0),(3,.ptr b3 0),(5,.p (I i))],[.box b3 ((B6 ⟨bc,bv⟩).map .p),.box b2 ((B6 ⟨ac,av⟩).map .p)],[]⟩) (0) An (KT _ _) ?_ ?_))))
 ·exact EU ⟨O,O,O,Ap⟩ AA
 intro i hi hC;refine As (Ay (A0 Az 3 [1] O (Ar O (DK GY O) (Aq Az 1 [] O (A2 O (fun c3=>?_) (fun c3=>?_))))))
 ·(try simp only[sd] at c3);have hi2:i<av.length:=by simp at c3;omega
  obtain⟨x,hx⟩:=A9 hi2;obtain⟨y,hy⟩:=A9 (l:=bv) (i:=i) An;refine A5 (As (BA (As (CK (fun k=>false) Eb (Bf Az 3 [1] O (BG O (fun _=>BC GY O O An (FJ hx) (O)) Ap (Bf Az 4 [0] O (BG O (fun _=>BC GY O O An (FJ hy) (O)) Ap (BG O (fun _=>Bg dk O (O)) Ap (BG O (fun _=>Pm iE O O) Ap (KZ O Ai (A2 O (fun c4=>?_) (fun c4=>?_)))))))))))))
  ·(try simp only[sd] at c4);refine Au Az 1 [] O (A4 ⟨O,_,[],G6 O,List.nil_sublist _,?_⟩);exact⟨pB (Di (fun h=>by simp at h;obtain⟨_,rfl⟩:=h;rw[hx] at hy;injection hy with hy;subst hy;simp_all)).symm,rfl⟩
  (try simp only[sd] at c4);have hxy:x=y:=by obtain⟨x1,x2⟩:=x;obtain⟨y1,y2⟩:=y;simp at c4;simp[c4]
  subst hxy;exact A5 (Ax (Aq Az 3 [] O (⟨by omega,KC hC hx hy,EU ⟨rfl,rfl,rfl,trivial⟩ AA⟩)))
 (try simp only[sd] at c3);have hi2:i=av.length:=by simp at c3;omega
 refine Bk (Au Az 1 [] O (A4 ⟨O,_,[],G6 O,List.nil_sublist _,?_⟩));exact⟨pB (DH (by rw[h1.1,Lv hC An An])).symm,O⟩
theorem K8:∀(a b:List CN),a.length<Cb→(∀l∈a,Vt l)→D3 Tryz.prog 43 [ie a,ie b] (.p (.bool (Iy a b))):=by
 intro a b hb hn;simp only[Cb] at hb;refine A1 Tryz.func43 O j6 (n:=27) O O (Au Az 1 [] O (As (Ay (CA O (Ar O (DK E1 O) (CA O (Ar O (DK E1 O) (Aq Az 1 [] O (A2 O (fun c1=>?_) (fun c1=>?_))))))))))
 ·(try simp only[sd] at c1);refine Au Az 1 [] O (A4 ⟨O,_,[],G6 O,List.nil_sublist _,?_⟩);exact⟨pB (Di (fun h=>by subst h;simp at *)).symm,rfl⟩
 (try simp only[sd] at c1);have h1:a.length=b.length:=by simp at c1;omega
 refine A5 (As (Au Az 1 [] O (BA (Nb (a.length) (fun i=>agree a b i) (fun i=>⟨27,mk [(0,ie a),(1,ie b),(5,.p (I i))],[],[]⟩) (0) An (KT _ _) ?_ ?_))))
 ·exact EU ⟨O,O,O,Ap⟩ AA
 intro i hi hC;refine As (Ay (A0 Az 2 [] O (Ar O (DK E1 O) (Aq Az 1 [] O (A2 O (fun c2=>?_) (fun c2=>?_))))))
 ·(try simp only[sd] at c2);have hi2:i<a.length:=by simp at c2;omega
  obtain⟨x,hx⟩:=A9 hi2;obtain⟨y,hy⟩:=A9 (l:=b) (i:=i) An;refine A5 (As (BA (As (CK (fun k=>false) Eb (Bf Az 2 [] O (BG O (fun _=>BC E1 O O An (IH hx) (Ep _)) Ap (Bf Az 3 [] O (BG O (fun _=>BC E1 O O An (IH hy) (Ep _)) Ap (BG O (fun _=>Bg Qn O (Ep _)) Ap (BG O (fun _=>BB O O (Zs x y (hn x (List.mem_of_getElem? hx)).vars) O) Ap (CE Az 1 [] O (A2 O (fun c3=>?_) (fun c3=>?_)))))))))))))
  ·(try simp only[sd] at c3);refine Au Az 1 [] O (A4 ⟨O,_,[],G6 O,List.nil_sublist _,?_⟩);exact⟨pB (Di (fun h=>by subst h;rw[hx] at hy;injection hy with hy;subst hy;simp[DH] at *)).symm,rfl⟩
  (try simp only[sd] at c3);have hxy:x=y:=Ed.1 (by simpa using c3);subst hxy;exact A5 (Ax (Aq Az 3 [] O (⟨by omega,KC hC hx hy,EU ⟨rfl,rfl,rfl,trivial⟩ AA⟩)))
 (try simp only[sd] at c2);have hi2:i=a.length:=by simp at c2;omega
 refine Bk (Au Az 1 [] O (A4 ⟨O,_,[],G6 O,List.nil_sublist _,?_⟩));exact⟨pB (DH (Lv hC An An)).symm,O⟩
theorem TR:∀(n:Nat) (a b:Tm),size a≤n→Nd a→D3 Tryz.prog 10 [TV a,TV b] (.p (.bool (Iy a b))):=by
 intro n
 induction n with
 | zero=>intro a b h;cases a;simp[size] at h
 | succ n ih =>
  intro a b hs hnd;obtain⟨ak,ai,an,al,aks⟩:=a;obtain⟨bk,bi,bn,bl,bks⟩:=b;simp only[size] at hs;simp only[Nd,Cb] at hnd;obtain⟨hn1,hn2,hn3,hn4,hn5,hn6⟩:=hnd;refine A1 Tryz.func10 O lF (n:=61) O O (Ay (BE O (BT O) fun b2=>BE O (BT O) fun b3=>Aq Az 1 [] O (As (As (Bj [0,1,2,3,4,5] 41 (fun y=>y= .p (.bool (ak !=bk||ai !=bi|| !(an.toList==bn.toList)|| !(Iy al bl)||(((Av aks).length:Int) !=(Av bks).length)))) ?_ ?_)))))
  ·refine Ax (A0 Az 6 [1,0] O (BS 11 O (fun g1=>?_) (fun g1=>?_)))
   ·(try simp only[sd] at g1);refine A0 Az 7 [] O (BS 18 O (fun g2=>?_) (fun g2=>?_))
    ·(try simp only[sd] at g2);refine A0 Az 7 [] O (BS 25 O (fun g3=>?_) (fun g3=>?_))
     ·(try simp only[sd] at g3);refine A0 Az 8 [] O (BS 33 O (fun g4=>?_) (fun g4=>?_))
      ·(try simp only[sd] at g4);exact Aq Az 8 [] O (⟨O,O,AK,pB Al,⟨O,O,O,O,O,O,Ap⟩⟩)
      (try simp only[sd] at g4);exact A0 Az 2 [1] O (BK O (DK BY O) (A0 Az 2 [0] O (BK O (DK BY O) (Aq Az 2 [] O (⟨O,O,AK,pB Al,⟨O,O,O,O,O,O,Ap⟩⟩)))))
     (try simp only[sd] at g3);refine A0 Az 4 [1,0] O (BK O (BB O O (K8 al bl hn2 hn3) O) (A0 Az 3 [] O (BS 33 O (fun g5=>?_) (fun g5=>?_))))
     ·(try simp only[sd] at g5);exact Aq Az 8 [] O (⟨O,O,AK,pB Al,⟨O,O,O,O,O,O,Ap⟩⟩)
     (try simp only[sd] at g5);exact A0 Az 2 [1] O (BK O (DK BY O) (A0 Az 2 [0] O (BK O (DK BY O) (Aq Az 2 [] O (⟨O,O,AK,pB Al,⟨O,O,O,O,O,O,Ap⟩⟩)))))
    (try simp only[sd] at g2);refine A0 Az 4 [1,0] O (BK O (LY O O) (A0 Az 2 [] O (BS 25 O (fun g6=>?_) (fun g6=>?_))))
    ·(try simp only[sd] at g6);refine A0 Az 8 [] O (BS 33 O (fun g7=>?_) (fun g7=>?_))
     ·(try simp only[sd] at g7);exact Aq Az 8 [] O (⟨O,O,AK,pB Al,⟨O,O,O,O,O,O,Ap⟩⟩)
     (try simp only[sd] at g7);exact A0 Az 2 [1] O (BK O (DK BY O) (A0 Az 2 [0] O (BK O (DK BY O) (Aq Az 2 [] O (⟨O,O,AK,pB Al,⟨O,O,O,O,O,O,Ap⟩⟩)))))
    (try simp only[sd] at g6);refine A0 Az 4 [1,0] O (BK O (BB O O (K8 al bl hn2 hn3) O) (A0 Az 3 [] O (BS 33 O (fun g8=>?_) (fun g8=>?_))))
    ·(try simp only[sd] at g8);exact Aq Az 8 [] O (⟨O,O,AK,pB Al,⟨O,O,O,O,O,O,Ap⟩⟩)
    (try simp only[sd] at g8);exact A0 Az 2 [1] O (BK O (DK BY O) (A0 Az 2 [0] O (BK O (DK BY O) (Aq Az 2 [] O (⟨O,O,AK,pB Al,⟨O,O,O,O,O,O,Ap⟩⟩)))))
   (try simp only[sd] at g1);refine A0 Az 7 [1,0] O (BS 18 O (fun g9=>?_) (fun g9=>?_))
   ·(try simp only[sd] at g9);refine A0 Az 7 [] O (BS 25 O (fun g10=>?_) (fun g10=>?_))
    ·(try simp only[sd] at g10);refine A0 Az 8 [] O (BS 33 O (fun g11=>?_) (fun g11=>?_))
     ·(try simp only[sd] at g11);exact Aq Az 8 [] O (⟨O,O,AK,pB Al,⟨O,O,O,O,O,O,Ap⟩⟩)
     (try simp only[sd] at g11);exact A0 Az 2 [1] O (BK O (DK BY O) (A0 Az 2 [0] O (BK O (DK BY O) (Aq Az 2 [] O (⟨O,O,AK,pB Al,⟨O,O,O,O,O,O,Ap⟩⟩)))))
    (try simp only[sd] at g10);refine A0 Az 4 [1,0] O (BK O (BB O O (K8 al bl hn2 hn3) O) (A0 Az 3 [] O (BS 33 O (fun g12=>?_) (fun g12=>?_))))
    ·(try simp only[sd] at g12);exact Aq Az 8 [] O (⟨O,O,AK,pB Al,⟨O,O,O,O,O,O,Ap⟩⟩)
    (try simp only[sd] at g12);exact A0 Az 2 [1] O (BK O (DK BY O) (A0 Az 2 [0] O (BK O (DK BY O) (Aq Az 2 [] O (⟨O,O,AK,pB Al,⟨O,O,O,O,O,O,Ap⟩⟩)))))
   (try simp only[sd] at g9);refine A0 Az 4 [1,0] O (BK O (LY O O) (A0 Az 2 [] O (BS 25 O (fun g13=>?_) (fun g13=>?_))))
   ·(try simp only[sd] at g13);refine A0 Az 8 [] O (BS 33 O (fun g14=>?_) (fun g14=>?_))
    ·(try simp only[sd] at g14);exact Aq Az 8 [] O (⟨O,O,AK,pB Al,⟨O,O,O,O,O,O,Ap⟩⟩)
    (try simp only[sd] at g14);exact A0 Az 2 [1] O (BK O (DK BY O) (A0 Az 2 [0] O (BK O (DK BY O) (Aq Az 2 [] O (⟨O,O,AK,pB Al,⟨O,O,O,O,O,O,Ap⟩⟩)))))
   (try simp only[sd] at g13);refine A0 Az 4 [1,0] O (BK O (BB O O (K8 al bl hn2 hn3) O) (A0 Az 3 [] O (BS 33 O (fun g15=>?_) (fun g15=>?_))))
   ·(try simp only[sd] at g15);exact Aq Az 8 [] O (⟨O,O,AK,pB Al,⟨O,O,O,O,O,O,Ap⟩⟩)
   (try simp only[sd] at g15);exact A0 Az 2 [1] O (BK O (DK BY O) (A0 Az 2 [0] O (BK O (DK BY O) (Aq Az 2 [] O (⟨O,O,AK,pB Al,⟨O,O,O,O,O,O,Ap⟩⟩)))))
  rintro _ rfl;refine A2 O (fun c16=>?_) (fun c16=>?_)
  ·(try simp only[sd] at c16);refine Au Az 1 [] O (A4 ⟨O,_,[],G6 O,List.nil_sublist _,?_⟩);exact⟨pB (Di (fun h=>by simp at h;simp[h,DH] at *)).symm,rfl⟩
  (try simp only[sd] at c16);have h1:ak=bk∧ai=bi∧an.toList=bn.toList∧al=bl∧aks.length=bks.length:=by simp[BD,Ed] at c16;obtain⟨⟨⟨⟨e1,e2⟩,e3⟩,e4⟩,e5⟩:=c16;exact⟨e1,e2,e3,e4,by omega⟩
  refine A5 (As (Au Az 1 [] O (BA (Nb (aks.length) (fun i=>agree aks bks i) (fun i=>⟨61,mk [(2,.ptr b2 0),(3,.ptr b3 0),(5,.p (I i))],[.box b3 ((Bc (.mk bk bi bn bl bks)).map .p),.box b2 ((Bc (.mk ak ai an al aks)).map .p)],[]⟩) (0) An (KT _ _) ?_ ?_))))
  ·exact EU ⟨O,O,O,Ap⟩ AA
  intro i hi hC;refine As (Ay (A0 Az 3 [1] O (Ar O (DK BY O) (Aq Az 1 [] O (A2 O (fun c17=>?_) (fun c17=>?_))))))
  ·(try simp only[sd] at c17);have hi2:i<aks.length:=by simp[BD] at c17;omega
   obtain⟨x,hx⟩:=A9 hi2;obtain⟨y,hy⟩:=A9 (l:=bks) (i:=i) An;refine A5 (As (BA (As (CK (fun k=>false) Eb (Bf Az 3 [1] O (BG O (fun _=>BC BY O O An (B0 hx) (BF _)) Ap (Bf Az 4 [0] O (BG O (fun _=>BC BY O O An (B0 hy) (BF _)) Ap (BG O (fun _=>Bg Bx O (BF _)) Ap (BG O (fun _=>BB O O (ih x y (by have:=B5 hx;omega) (Cq hn5 hx)) O) Ap (CE Az 1 [] O (A2 O (fun c18=>?_) (fun c18=>?_)))))))))))))
   ·(try simp only[sd] at c18);refine Au Az 1 [] O (A4 ⟨O,_,[],G6 O,List.nil_sublist _,?_⟩);exact⟨pB (Di (fun h=>by simp at h;obtain⟨_,_,_,_,rfl⟩:=h;rw[hx] at hy;injection hy with hy;subst hy;simp[DH] at *)).symm,rfl⟩
   (try simp only[sd] at c18);have hxy:x=y:=Ed.1 (by simpa using c18);subst hxy;exact A5 (Ax (Aq Az 3 [] O (⟨by omega,KC hC hx hy,EU ⟨rfl,rfl,rfl,trivial⟩ AA⟩)))
  (try simp only[sd] at c17);have hi2:i=aks.length:=by simp[BD] at c17;omega
  refine Bk (Au Az 1 [] O (A4 ⟨O,_,[],G6 O,List.nil_sublist _,?_⟩));exact⟨pB (DH (by obtain⟨e1,e2,e3,e4,e5⟩:=h1;rw[e1,e2,e4,Kw e3,Lv hC An An])).symm,rfl⟩
end Go.Proofs.YtifphifongokcaaGreat
