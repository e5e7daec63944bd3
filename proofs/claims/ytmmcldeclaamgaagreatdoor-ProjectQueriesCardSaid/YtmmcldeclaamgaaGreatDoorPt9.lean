/- Part 9: lemmas that the proofs of this seat share; by itself it claims nothing. -/
import Derived.Test.YtmmcldeclaamgaaGreatDoorPt8
set_option maxRecDepth 100000
set_option maxHeartbeats 1000000
namespace Go.Pj
open Go Go.Ax Go.Ch Go.Proofs Go.Proofs.Tryz
abbrev lim(n:Nat):Prop:=n≤9223372036854775807
end Go.Pj
set_option maxRecDepth 100000
set_option maxHeartbeats 20000000
namespace Go.Ax
open Go.RowKit
theorem sh{b:Bool}{q:Prop}(h:q):Q3 (b=true) (some (rL true b))∧q:=⟨fun h=>by simpa [rL]using h,h⟩
section
variable{α:Type} [Inhabited α] {s n e:Nat}{f g:Nat→Nat→DV}{el:α→Nat→DV}{l:List α}{x:α}
end
end Go.Ax
namespace Go.Ch
open Go Go.Ax Go.Proofs Go.Proofs.Tryz
open Go.Lib (itoa)
def wrd(n:Int):List UInt8:=bif n==30000 then [45]else itoa n
def ybi(s:UInt8)(ws:List (List UInt8))(w:List UInt8):List UInt8:=ws.flatMap (fun x=>x++ [s])++w
def yao(s:UInt8)(out:List (List UInt8))(b:UInt8):List (List UInt8):=bif b==s then out++ [[]]else out.dropLast++ [out.getLastD []++ [b]]
def yac(s:UInt8)(l:List UInt8):List (List UInt8):=l.foldl (yao s) [[]]
theorem ybp{s:UInt8}:∀(l:List UInt8) (out:List (List UInt8)) (cur:List UInt8),(∀b∈l,b≠s)→l.foldl (yao s) (out++ [cur])=out++ [cur++l]
 |[],out,cur,_=>by simp
 |b::l,out,cur,h=>by
  have hb:(b==s)=false:=by rw[beq_eq_false_iff_ne];exact h b List.mem_cons_self
  have e:yao s (out++ [cur]) b=out++ [cur++ [b]]:=by unfold yao;rw[hb];simp
  rw[List.foldl_cons,e,ybp l out _ (fun x hx=>h x (List.mem_cons_of_mem _ hx))];simp
theorem ybw{s:UInt8}:∀(ws out:List (List UInt8)),(∀w∈ws,∀b∈w,b≠s)→(ws.flatMap (fun x=>x++ [s])).foldl (yao s) (out++ [[]])=(out++ws)++ [[]]
 |[],out,_=>by simp
 |w::ws,out,h=>by
  rw[List.flatMap_cons,List.foldl_append,List.foldl_append,ybp w out [] (h w List.mem_cons_self)];have e:List.foldl (yao s) (out++ [[]++w]) [s]=(out++ [w])++ [[]]:=by simp[yao]
  rw[e,ybw ws (out++ [w]) (fun x hx=>h x (List.mem_cons_of_mem _ hx))];simp
theorem ycb{s:UInt8}{ws:List (List UInt8)}{w:List UInt8}(h:∀x∈ws,∀b∈x,b≠s)(hw:∀b∈w,b≠s):yac s (ybi s ws w)=ws++ [w]:=by unfold yac ybi;have:=ybw ws [] h;simp only [List.nil_append]at this;rw[List.foldl_append,this,ybp w ws [] hw];simp
theorem ybQ(s:UInt8)(out:List (List UInt8))(b:UInt8)(h:out≠[]):yao s out b≠[]∧out.length≤(yao s out b).length∧(yao s out b).length≤out.length+1:=by
 have hp:=List.length_pos_iff.2 h;unfold yao
 cases b==s
 ·refine⟨sM,?_,?_⟩ <;> simp <;> omega
 refine⟨sM,?_,?_⟩ <;> simp
theorem ya1(s:UInt8):∀(l:List UInt8) (out:List (List UInt8)),out≠[]→l.foldl (yao s) out≠[]∧(l.foldl (yao s) out).length≤out.length+l.length
 |[],out,h=>⟨h,sM⟩
 |b::l,out,h=>by obtain⟨h1,_,h3⟩:=ybQ s out b h;obtain⟨k1,k2⟩:=ya1 s l _ h1;rw[List.foldl_cons];exact⟨k1,by simp;omega⟩
theorem ybG(s:UInt8)(l:List UInt8):yac s l≠[]∧(yac s l).length≤1+l.length:=ya1 s l [[]] sM
theorem ybv(s:UInt8)(l:List UInt8)(b:UInt8):yac s (l++ [b])=yao s (yac s l) b:=by simp[yac]
theorem ybH(s:UInt8):∀(l:List UInt8) (out:List (List UInt8)) (m:Nat),(∀w∈out,w.length≤m)→∀w∈l.foldl (yao s) out,w.length≤m+l.length
 |[],out,m,h,w,hw=>by simpa using h w hw
 |b::l,out,m,h,w,hw=>by
  rw[List.foldl_cons]at hw;have:=ybH s l (yao s out b) (m+1) (fun x hx=>by
   unfold yao at hx
   cases hb:b==s with
   |true=>
    rw[hb]at hx;simp at hx;rcases hx with hx|rfl
    ·have:=h x hx;omega
    simp
   |false=>
    rw[hb]at hx;simp only [cond_false,List.mem_append,List.mem_cons,List.not_mem_nil,or_false]at hx;rcases hx with hx|rfl
    ·have:=h x (List.dropLast_subset _ hx);omega
    cases ho:out.getLast? with
    |none=>simp[List.getLastD_eq_getLast?,ho]
    |some q=>have:=h q (List.mem_of_getLast? ho);simp[List.getLastD_eq_getLast?,ho];omega) w hw
  simp;omega
theorem ybu{s:UInt8}{l w:List UInt8}(h:w∈yac s l):w.length≤l.length:=by have:=ybH s l [[]] 0 sM w h;omega
abbrev vY(b:UInt8):AV:=.s (.d (.val (.int .u8 (b.toNat:Int))))
theorem yaN(l:List UInt8)(i:Nat):(bs l)[i]! =l.getD i 0:=by
 by_cases h:i<l.length
 ·rw[getElem!_pos (bs l) i (by rw[cF];exact h)];show l.toArray[i]=_;simp[List.getD,h]
 rw[getElem!_neg (bs l) i (by rw[cF];exact h)];rw[List.getD_eq_getElem?_getD,List.getElem?_eq_none oM];rfl
theorem yb9(a b:UInt8):(((a.toNat:Int))==(b.toNat:Int))=(a==b):=by
 rw[Bool.eq_iff_iff,beq_iff_eq,beq_iff_eq];constructor
 ·intro h;exact UInt8.toNat_inj.1 oM
 rintro rfl;rfl
def ybD(w:List UInt8)(_:Nat):DV:=dT w
theorem ybr(l:List UInt8){i:Nat}(h:i<l.length):l.take (i+1)=l.take i++ [l.getD i 0]:=by rw[List.take_add_one,List.getElem?_eq_getElem h];simp[List.getD,h]
theorem Cut(s:List UInt8)(at':UInt8)(hl:s.length≤100000):aF prog 33 [vT s,vY at'] (.s (.d (J4 (yac at' s)))):=by
 refine eP func33 rfl rfl call33 rfl rfl fun cx aA=>?_
 refine AW.cG (fun i:Nat=>⟨[(0,vT s),(1,vY at'),(5,.s (.own 100)),(6,vI i)],[(100,some (.row 9 (yac at' (s.take i)).length 1 (fun k=>ybD ((yac at' (s.take i)).getD k default))))]⟩)
  (fun i=>i≤s.length) (fun i=>s.length - i) 0 (Nat.zero_le _) ?_ ?_
 ·exact aM.bD aA [(100,7)] rfl ⟨⟨rfl,aY.row rfl fun i j hi hj=>aK.of_eq (by
   obtain rfl:i=0:=oM;obtain rfl:j=0:=by have:j<1:=hj;omega
   rfl)⟩,oO⟩ ⟨qZ,qZ,qZ,qZ,oO⟩
 intro i hi;obtain⟨c1,c2⟩:=ybG at' (s.take i);have c3:(s.take i).length=i:=by simp;omega
 have c4:=List.length_pos_iff.2 c1;refine eX aA (aI (fun h=>?_) (fun h=>?_))
 ·have h:(i:Int)<((bs s).size:Int):=bG h;rw[cF]at h;have bC:i<s.length:=oM;have uX:=ybr s bC;refine oi (show 0≤(i:Int)∧(i:Int)<((bs s).size:Int) by rw[cF];omega) ?_;refine aI (fun h2=>?_) (fun h2=>?_)
  ·have h2:(((((bs s)[(i:Int).toNat]!).toNat:Int))==(at'.toNat:Int))=true:=h2;rw[yb9,yaN,Int.toNat_natCast]at h2;have e:yac at' (s.take (i+1))=yac at' (s.take i)++ [[]]:=by rw[uX,ybv,yao,h2];rfl
   refine ob (show((yac at' (s.take i)).length+1)*16≤_ by omega) (ob (nJ (AS rfl)) ?_);refine⟨i+1,oM,oM,?_⟩;refine aM.bD aA [(100,21)] rfl ⟨⟨rfl,?_⟩,oO⟩ ⟨qZ,qZ,qZ,⟨rfl,aU.int (aG oM oM)⟩,oO⟩;rw[e];exact iJ.row (el:=ybD) (iJ.snoc iJ.refl (AS rfl))
  have h2:(((((bs s)[(i:Int).toNat]!).toNat:Int))==(at'.toNat:Int))=false:=h2;rw[yb9,yaN,Int.toNat_natCast]at h2;have ew:aW ((yac at' (s.take i)).length - 1)=((yac at' (s.take i)).length:Int) - 1:=aG oM oM;refine oi (show 0≤aW ((yac at' (s.take i)).length - 1)∧aW ((yac at' (s.take i)).length - 1)<((yac at' (s.take i)).length:Int) by rw[ew];omega) ?_;have hx:(aW ((yac at' (s.take i)).length - 1)).toNat<(yac at' (s.take i)).length:=by rw[ew];omega
  have ei:aW ((i:Int)+1)=(i:Int)+1:=aG oM oM;refine oi hx ?_;refine oi (show 0≤(i:Int)∧(i:Int)≤aW ((i:Int)+1)∧aW ((i:Int)+1)≤((bs s).size:Int) by rw[cF,ei];omega) ?_;refine oi (show(bs ((yac at' (s.take i)).getD (aW ((yac at' (s.take i)).length - 1)).toNat default)).size+((bs s).extract (i:Int).toNat (aW ((i:Int)+1)).toNat).size≤9223372036854775807 from ?_) ?_
  ·have hm:((yac at' (s.take i)).getD (aW ((yac at' (s.take i)).length - 1)).toNat default)∈yac at' (s.take i):=by rw[List.getD_eq_getElem?_getD,List.getElem?_eq_getElem hx];exact List.getElem_mem hx
   have:=ybu hm;rw[UQ,cF,cF];simp only [List.length_drop,List.length_take];omega
  refine oi (show 0≤aW ((yac at' (s.take i)).length - 1)∧aW ((yac at' (s.take i)).length - 1)<((yac at' (s.take i)).length:Int) by rw[ew];omega) ?_;refine ob hx (aD ?_);refine⟨i+1,oM,oM,?_⟩;refine aM.bD aA [] rfl ⟨⟨rfl,?_⟩,oO⟩ ⟨qZ,qZ,qZ,⟨rfl,aU.int ei⟩,oO⟩;have e:yac at' (s.take (i+1))=(yac at' (s.take i)).dropLast++ [(yac at' (s.take i)).getLastD []++ [s.getD i 0]]:=by rw[uX,ybv,yao,h2];rfl
  have en:(aW ((yac at' (s.take i)).length - 1)).toNat=(yac at' (s.take i)).length - 1:=by rw[ew];omega
  refine aY.row (by rw[e];simp;omega) fun k j hk hj=>aK.of_eq ?_
  obtain rfl:j=0:=by have:j<1:=hj;omega
  rw[e,en];by_cases ND:k=(yac at' (s.take i)).length - 1
  ·subst ND;refine oP.trans ?_;show DV.val (Value.string (bs ((yac at' (s.take i)).getD ((yac at' (s.take i)).length - 1) default)++(bs s).extract (i:Int).toNat (aW ((i:Int)+1)).toNat))=dT _;rw[UQ,fH];have e1:((s.take (aW ((i:Int)+1)).toNat).drop (i:Int).toNat)=[s.getD i 0]:=by rw[ei,show((i:Int)+1).toNat=i+1 by omega,Int.toNat_natCast,uX,List.drop_append_of_le_length oM,List.drop_eq_nil_of_le oM,List.nil_append]
   have e2:(yac at' (s.take i)).getD ((yac at' (s.take i)).length - 1) default=(yac at' (s.take i)).getLastD []:=by rw[List.getLastD_eq_getLast?,List.getLast?_eq_getElem?,List.getD_eq_getElem?_getD];rfl
   rw[e1,e2];refine congrArg dT ?_;have e3:∀(l:List (List UInt8)) (x d:List UInt8),(l++ [x]).getD l.length d=x:=by intro l x d;simp
   rw[show(yac at' (s.take i)).length - 1=(yac at' (s.take i)).dropLast.length by simp];exact(e3 _ _ _).symm
  refine(tG ND).trans ?_;show ybD _ 0=ybD _ 0;congr 1;rw[List.getD_eq_getElem?_getD,List.getD_eq_getElem?_getD,List.getElem?_append_left (by simp;omega),List.getElem?_dropLast,if_pos oM]
 have h:¬(i:Int)<((bs s).size:Int):=bF h;rw[cF]at h;obtain rfl:i=s.length:=oM;rw[List.take_length];exact aC.refl _
end Go.Ch
namespace Go.Pj
open Go Go.Ax Go.Ch Go.Proofs Go.Proofs.Tryz
theorem ycH{n:Int}(h:0≤n)(k:n≤255):IntKind.u8.wrap n=n:=by unfold IntKind.wrap;simp[IntKind.bits,IntKind.signed];omega
def nmF(w:bJ):Nat→Int×Bool
 |0=>(0,false)
 |i+1=>
  bif i==0&&w.getD i 0==45 then((nmF w i).1,true)
  else bif decide ((w.getD i 0).toNat≥48)&&decide ((w.getD i 0).toNat≤57)then(10*(nmF w i).1+(((w.getD i 0).toNat:Int) - 48),(nmF w i).2)
  else nmF w i
def nmV(w:bJ):Int:=bif (nmF w (min 14 w.length)).2 then -(nmF w (min 14 w.length)).1 else(nmF w (min 14 w.length)).1
theorem ybz(w:bJ):∀i,0≤(nmF w i).1∧(nmF w i).1<10^i
 |0=>⟨Int.le_refl 0,show(0:Int)<1 by decide⟩
 |i+1=>by
  have ih:=ybz w i;have e:(10:Int)^(i+1)=10*10^i:=by rw[Int.pow_succ,Int.mul_comm]
  rw[nmF]
  cases hb:(i==0&&w.getD i 0==45)with
  |true=>exact⟨ih.1,by show(nmF w i).1<_;omega⟩
  |false=>
   cases hc:(decide ((w.getD i 0).toNat≥48)&&decide ((w.getD i 0).toNat≤57))with
   |true=>
    simp only [Bool.and_eq_true,decide_eq_true_eq]at hc;refine⟨?_,?_⟩
    ·show 0≤10*(nmF w i).1+(((w.getD i 0).toNat:Int) - 48);omega
    show 10*(nmF w i).1+(((w.getD i 0).toNat:Int) - 48)<_;omega
   |false=>exact⟨ih.1,by show(nmF w i).1<_;omega⟩
theorem ycd(w:bJ){i:Nat}(h:i≤14):0≤(nmF w i).1∧(nmF w i).1<100000000000000:=by
 have b:=ybz w i;have:(10:Int)^i≤10^14:=by have:=Nat.pow_le_pow_right (n:=10) dC h;exact_mod_cast this
 have e9:(10:Int)^14=100000000000000:=dC;omega
theorem ycA(w:bJ):aF prog 35 [vT w] (vI (nmV w)):=by
 refine eP func35 rfl rfl call35 rfl rfl fun cx aA=>?_
 refine AW.cG (fun i:Nat=>⟨[(0,vT w),(3,vI (nmF w i).1),(4,vB (nmF w i).2),(5,vI i)],[]⟩)
  (fun i=>i≤w.length∧i≤14) (fun i=>w.length - i) 0 ⟨Nat.zero_le _,Nat.zero_le _⟩ ?_ ?_
 ·exact aM.bD aA [] rfl trivial ⟨qZ,qZ,qZ,qZ,oO⟩
 rintro i ⟨hi,h14⟩;obtain⟨b1,b2⟩:=ycd w h14;have n0:((i:Int)==0)=(i==0):=by rw[Bool.eq_iff_iff,beq_iff_eq,beq_iff_eq];omega
 have u45:=yb9 (w.getD i 0) 45;have d1:decide (((w.getD i 0).toNat:Int)≥48)=decide ((w.getD i 0).toNat≥48):=decide_eq_decide.2 oM;have d2:decide (((w.getD i 0).toNat:Int)≤57)=decide ((w.getD i 0).toNat≤57):=decide_eq_decide.2 oM;refine eX aA ?_;repeat refine aR ?_
 refine aI (fun h=>?_) (fun h=>?_)
 ·have h:(decide ((i:Int)<((bs w).size:Int))&&decide ((i:Int)<14))=true:=h;rw[cF]at h;simp only [Bool.and_eq_true,decide_eq_true_eq]at h;have hb:0≤(i:Int)∧(i:Int)<((bs w).size:Int):=by rw[cF];omega
  repeat refine aR ?_
  refine aI (fun _=>hb) ?_;repeat refine aR ?_
  refine aI (fun h2=>?_) (fun h2=>?_)
  ·have h2:(((i:Int)==0)&&((((bs w)[(i:Int).toNat]!).toNat:Int)==45))=true:=h2;have h2:(i==0&&w.getD i 0==45)=true:=by rw[←n0,←u45,←yaN];exact h2
   have e:nmF w (i+1)=((nmF w i).1,true):=by rw[nmF,h2];rfl
   refine⟨i+1,⟨oM,oM⟩,oM,?_⟩;rw[e];exact aM.bD aA [] rfl trivial ⟨qZ,qZ,⟨rfl,aU.lit rfl⟩,⟨rfl,aU.int (aG oM oM)⟩,oO⟩
  have h2:(((i:Int)==0)&&((((bs w)[(i:Int).toNat]!).toNat:Int)==45))=false:=h2;have h2:(i==0&&w.getD i 0==45)=false:=by rw[←n0,←u45,←yaN];exact h2
  refine oi hb ?_;repeat refine aR ?_
  refine aI (fun _=>hb) ?_;repeat refine aR ?_
  refine aI (fun h3=>?_) (fun h3=>?_)
  ·have h3:(decide ((((bs w)[(i:Int).toNat]!).toNat:Int)≥48)&&decide ((((bs w)[(i:Int).toNat]!).toNat:Int)≤57))=true:=h3;have h3:(decide ((w.getD i 0).toNat≥48)&&decide ((w.getD i 0).toNat≤57))=true:=by rw[←d1,←d2,←yaN];exact h3
   have e:nmF w (i+1)=(10*(nmF w i).1+(((w.getD i 0).toNat:Int) - 48),(nmF w i).2):=by rw[nmF,h2,h3];rfl
   simp only [Bool.and_eq_true,decide_eq_true_eq]at h3;refine oi hb ⟨i+1,⟨oM,oM⟩,oM,?_⟩;rw[e];refine aM.bD aA [] rfl trivial ⟨qZ,⟨rfl,aU.int ?_⟩,qZ,⟨rfl,aU.int (aG oM oM)⟩,oO⟩;show aW (aW (10*(nmF w i).1)+aW (IntKind.u8.wrap ((((bs w)[(i:Int).toNat]!).toNat:Int) - 48)))=_;rw[Int.toNat_natCast,yaN,ycH oM oM,aG (n:=10*(nmF w i).1) oM oM,aG (n:=((w.getD i 0).toNat:Int) - 48) oM oM,aG oM oM]
  have h3:(decide ((((bs w)[(i:Int).toNat]!).toNat:Int)≥48)&&decide ((((bs w)[(i:Int).toNat]!).toNat:Int)≤57))=false:=h3;have h3:(decide ((w.getD i 0).toNat≥48)&&decide ((w.getD i 0).toNat≤57))=false:=by rw[←d1,←d2,←yaN];exact h3
  have e:nmF w (i+1)=nmF w i:=by rw[nmF,h2,h3];rfl
  refine⟨i+1,⟨oM,oM⟩,oM,?_⟩;rw[e];exact aM.bD aA [] rfl trivial ⟨qZ,qZ,qZ,⟨rfl,aU.int (aG oM oM)⟩,oO⟩
 have h:(decide ((i:Int)<((bs w).size:Int))&&decide ((i:Int)<14))=false:=h;rw[cF]at h;have hm:min 14 w.length=i:=by simp only [Bool.and_eq_false_iff,decide_eq_false_iff_not]at h;omega
 refine aI (fun h2=>?_) (fun h2=>?_)
 ·have h2:(nmF w i).2=true:=h2;have e:nmV w= -(nmF w i).1:=by unfold nmV;rw[hm,h2];rfl
  rw[e];refine aC.of_eq (congrArg vI (show aW (0 - (nmF w i).1)= -(nmF w i).1 from ?_));rw[aG oM oM];omega
 have h2:(nmF w i).2=false:=h2;have e:nmV w=(nmF w i).1:=by unfold nmV;rw[hm,h2];rfl
 rw[e];exact aC.refl _
end Go.Pj
namespace Go.Ax
theorem AW.pG{P:Program}{cx:Cx}{N:Nat}{σ:St}{K:Exit→St→Prop}{x y:Code}{S:Type}(UZ:S→St)(J:S→Prop)(h:AW P cx N x σ fun e s=>(e=.normal∧∃q,J q∧pI cx N s (UZ q))∨(e=.ret∧K .ret s))(k:∀q,J q→AW P cx N y (UZ q) K):AW P cx N (.seq x y) σ K:=
 AW.seq (AW.mono h fun e s he=>by
  rcases he with⟨rfl,q,hq,hs⟩|⟨rfl,hs⟩
  ·exact AW.XE hs (k q hq)
  exact hs)
theorem pI.tr{cx:Cx}{N:Nat}{a b c:St}(h:pI cx N a b)(k:pI cx N b c):pI cx N a c:=fun M β x w i=>
 let⟨M1,β1,i1,g1⟩:=h M β x w i
 let⟨M2,β2,i2,g2⟩:=k M1 β1 x w i1
 ⟨M2,β2,i2,g1.trans g2⟩
end Go.Ax
namespace Go.Pj
open Go Go.Ax Go.Ch Go.Proofs Go.Proofs.Tryz
theorem ybc(w:bJ)(i:Nat):nmF w (i+1)=bif i==0&&w.getD i 0==45 then((nmF w i).1,true)
  else bif decide ((w.getD i 0).toNat≥48)&&decide ((w.getD i 0).toNat≤57)then(10*(nmF w i).1+(((w.getD i 0).toNat:Int) - 48),(nmF w i).2)
  else nmF w i:=rfl
theorem ybU{w:bJ}(h:∀b∈w,48≤b.toNat∧b.toNat≤57):∀i,i≤w.length→∃v:Nat,Lib.decFrom 0 (w.take i)=some v∧nmF w i=((v:Int),false)
 |0,_=>⟨0,rfl,rfl⟩
 |i+1,hi=>by
  have bC:i<w.length:=hi;obtain⟨v,h1,h2⟩:=ybU h i oM;obtain⟨a,b⟩:=h w[i] (List.getElem_mem bC);have hg:w.getD i 0=w[i]:=aX bC;have hd:Lib.digitVal w[i]=some (w[i].toNat - 48):=by unfold Lib.digitVal;rw[if_pos ⟨a,b⟩]
  refine⟨v*10+(w[i].toNat - 48),?_,?_⟩
  ·rw[List.take_add_one,List.getElem?_eq_getElem bC];exact CE _ _ _ _ _ h1 hd
  have n45:(w[i]==45)=false:=by rw[beq_eq_false_iff_ne];intro e;rw[e]at a;exact absurd a dC
  rw[ybc,h2,hg,n45,Bool.and_false,cond_false,decide_eq_true a,decide_eq_true b];simp only [Bool.and_self,cond_true,Prod.mk.injEq,and_true];omega
theorem ybV{u:bJ}(h:∀b∈u,48≤b.toNat∧b.toNat≤57):∀i,i≤u.length→nmF (45::u) (i+1)=((nmF u i).1,true)
 |0,_=>rfl
 |i+1,hi=>by
  have bC:i<u.length:=hi;have ih:=ybV h i oM;obtain⟨a,b⟩:=h u[i] (List.getElem_mem bC);have hg:u.getD i 0=u[i]:=aX bC;have hg':(45::u).getD (i+1) 0=u[i]:=by rw[List.getD_cons_succ];exact hg
  have n45:(u[i]==45)=false:=by rw[beq_eq_false_iff_ne];intro e;rw[e]at a;exact absurd a dC
  rw[ybc (45::u) (i+1),ih,hg',n45,Bool.and_false,cond_false,ybc u i,hg,n45,Bool.and_false,cond_false,decide_eq_true a,decide_eq_true b];rfl
theorem yco{n:Int}(h:okI n):nmV (Lib.itoa n)=n:=by
 have h14:=lG h;have hd:=yQ _ _ (Nat.le_refl n.natAbs);have hv:=WO _ _ (Nat.le_refl n.natAbs);obtain⟨v,e1,e2⟩:=ybU hd _ (Nat.le_refl _);rw[List.take_length,hv]at e1
 cases e1
 unfold nmV;rw[Nat.min_eq_right h14];rcases HK n with⟨h0,e⟩|⟨h0,e⟩ <;> rw[e]
 ·rw[List.length_cons,ybV hd _ (Nat.le_refl _),e2];simp only [cond_true];omega
 rw[e2];simp only [cond_false];omega
theorem yaK(a b:bJ):((bs a).toList==(bs b).toList)=(a==b):=by
 have e:∀x:bJ,(bs x).toList=x:=fun x=>by rw[ByteArray.toList_eq];simp[bs]
 rw[e,e]
theorem ybT:∀(ws:List bJ) (w:bJ),iO (ws++ [w])=ybi 32 ws w
 |[],w=>by simp[ybi,nB]
 |a::ws,w=>by rw[List.cons_append,HJ a sM,ybT ws w];simp[ybi]
theorem ybZ{l:List bJ}(hn:l≠[])(h:∀w∈l,∀b∈w,b≠32):yac 32 (iO l)=l:=by have e:l.dropLast++ [l.getLast hn]=l:=List.dropLast_concat_getLast hn;have h1:=ycb (s:=32) (ws:=l.dropLast) (w:=l.getLast hn) (fun x hx=>h x (List.dropLast_subset _ hx)) (h _ (List.getLast_mem hn));rw[←ybT,e]at h1;exact h1
structure Cnd where
 field:Int
 op:ByteArray
 num:Int
 name:ByteArray
 deriving Inhabited
structure Qry where
 mea:Int
 conds:List Cnd
 grp:Int
def yaA:List bJ:=[[118,111,108,117,109,101],[112,97,105,100],[112,105,101,99,101,115]]
def yaa:List bJ:=[[],[109,111,110,116,104],[99,101,108,108],[115,111,105,108],[108,111,97,100],[112,105,116]]
def yav:List bJ:=[[61],[33,61],[60],[60,61],[62],[62,61]]
def ya:bJ:=[119,104,101,114,101]
def yah:bJ:=[97,110,100]
def wBy:bJ:=[98,121]
def yaf(f:Int):Bool:=f==3||f==5
def yaC(c:Cnd):Bool:=bif yaf c.field then(yav.take 2).contains (tx c.op)else yav.contains (tx c.op)
def yab(c:Cnd):Int:=bif !(within c.field 1 5)then 2 else bif !(yaC c)then 3 else bif !(yaf c.field)&& !(within c.num 0 1000000)then 2 else bif yaf c.field&& !(isName c.name)then 4 else 0
def yau:List Cnd→Int
 |[]=>0
 |c::l=>bif yab c==0 then yau l else yab c
def yag(q:Qry):Int:=bif !(within q.mea 0 2)|| !(within q.grp 0 5)then 2 else bif decide ((q.conds.length:Int)>10)then 8 else yau q.conds
def yax(c:Cnd):List bJ:=[yaa.getD c.field.toNat [],tx c.op,bif yaf c.field then tx c.name else Lib.itoa c.num]
def yae(w:bJ):List Cnd→List bJ
 |[]=>[]
 |c::l=>w::yax c++yae yah l
def yal(g:Int):List bJ:=bif g==0 then []else [wBy,yaa.getD g.toNat []]
def yas(q:Qry):List bJ:=yaA.getD q.mea.toNat []::(yae ya q.conds++yal q.grp)
def yak(q:Qry):bJ:=bif yag q==0 then iO (yas q)else []
def yaw(c:Cnd):Cnd:=⟨c.field,c.op,bif yaf c.field then 0 else c.num,bif yaf c.field then c.name else bs []⟩
def yaB(q:Qry):Qry:=⟨q.mea,q.conds.map yaw,q.grp⟩
theorem ycz{c:Cnd}(h:yaC c=true):tx c.op∈yav:=by
 unfold yaC at h
 cases hn:yaf c.field with
 |true=>rw[hn]at h;have h:(yav.take 2).contains (tx c.op)=true:=h;rw[List.contains_iff_mem]at h;exact List.mem_of_mem_take h
 |false=>
  rw[hn]at h
  have h:yav.contains (tx c.op)=true:=h
  rwa [List.contains_iff_mem]at h
theorem yaP{c:Cnd}(h:yab c=0):(1≤c.field∧c.field≤5)∧tx c.op∈yav∧(yaf c.field=false→0≤c.num∧c.num≤1000000)∧(yaf c.field=true→isName c.name=true):=by
 unfold yab at h
 cases h1:within c.field 1 5 with
 |false=>rw[h1]at h;exact absurd h (show ¬((2:Int)=0) by decide)
 |true=>
  cases h2:yaC c with
  |false=>rw[h1,h2]at h;exact absurd h (show ¬((3:Int)=0) by decide)
  |true=>
   rw[h1,h2]at h;refine⟨within_iff.1 h1,ycz h2,fun hn=>?_,fun hn=>?_⟩
   ·cases h3:within c.num 0 1000000 with
    |true=>exact within_iff.1 h3
    |false=>rw[hn,h3]at h;exact absurd h (show ¬((2:Int)=0) by decide)
   cases h3:isName c.name with
   |true=>rfl
   |false=>rw[hn,h3]at h;exact absurd h (show ¬((4:Int)=0) by decide)
theorem ybe:∀{l:List Cnd},yau l=0→∀c∈l,yab c=0
 |[],_,c,hc=>by cases hc
 |a::l,h,c,hc=>by
  rw[yau]at h
  cases h1:yab a==0 with
  |false=>rw[h1]at h;have:yab a=0:=h;rw[this]at h1;cases h1
  |true=>
   rw[h1]at h
   cases hc with
   |head=>simpa using h1
   |tail _ hc=>exact ybe h c hc
theorem yaJ{q:Qry}(h:yag q=0):(0≤q.mea∧q.mea≤2)∧(0≤q.grp∧q.grp≤5)∧q.conds.length≤10∧∀c∈q.conds,yab c=0:=by
 unfold yag at h
 cases h1:within q.mea 0 2 with
 |false=>rw[h1]at h;exact absurd h (show ¬((2:Int)=0) by decide)
 |true=>
  cases h2:within q.grp 0 5 with
  |false=>rw[h1,h2]at h;exact absurd h (show ¬((2:Int)=0) by decide)
  |true=>
   rw[h1,h2]at h
   cases h3:decide ((q.conds.length:Int)>10)with
   |true=>rw[h3]at h;exact absurd h (show ¬((8:Int)=0) by decide)
   |false=>rw[h3]at h;have h4:=of_decide_eq_false h3;exact⟨within_iff.1 h1,within_iff.1 h2,oM,ybe h⟩
theorem ycK{n:Int}(h:1≤n∧n≤5):n=1∨n=2∨n=3∨n=4∨n=5:=oM
theorem ybo{c:Cnd}(h:yab c=0):∀w∈yax c,w.length≤14∧∀b∈w,b≠32:=by
 obtain⟨h1,h2,h3,h4⟩:=yaP h;intro w hw;simp only [yax,List.mem_cons,List.not_mem_nil,or_false]at hw;rcases hw with rfl|rfl|rfl
 ·rcases ycK h1 with e|e|e|e|e <;> rw[e] <;> exact⟨dC,dC⟩
 ·generalize tx c.op=o at h2 ⊢;simp only [yav,List.mem_cons,List.not_mem_nil,or_false]at h2;rcases h2 with rfl|rfl|rfl|rfl|rfl|rfl <;> exact⟨dC,dC⟩
 cases hn:yaf c.field with
 |true=>exact⟨by have:=iW (h4 hn);show(tx c.name).length≤14;rw[wV];omega,xK (h4 hn)⟩
 |false=>have:=h3 hn;exact⟨lG oM,iA _⟩
theorem yb:∀{l:List Cnd} {v:bJ},(v.length≤14∧∀b∈v,b≠32)→(∀c∈l,yab c=0)→∀w∈yae v l,w.length≤14∧∀b∈w,b≠32
 |[],_,_,_,w,hw=>by cases hw
 |c::l,v,hv,h,w,hw=>by
  rw[yae]at hw;rcases List.mem_append.1 hw with hw|hw
  ·cases hw with
   |head=>exact hv
   |tail _ hw=>exact ybo (h c (List.mem_cons_self ..)) w hw
  exact yb (v:=yah) ⟨dC,dC⟩ (fun x hx=>h x (List.mem_cons_of_mem _ hx)) w hw
theorem ybS{g:Int}(h:0≤g∧g≤5):∀w∈yal g,w.length≤14∧∀b∈w,b≠32:=by rcases(by omega:g=0∨g=1∨g=2∨g=3∨g=4∨g=5)with e|e|e|e|e|e <;> rw[e] <;> decide
theorem ybY{q:Qry}(h:yag q=0):∀w∈yas q,w.length≤14∧∀b∈w,b≠32:=by
 obtain⟨h1,h2,_,h4⟩:=yaJ h;intro w hw;rw[yas]at hw
 cases hw with
 |head=>rcases(by omega:q.mea=0∨q.mea=1∨q.mea=2)with e|e|e <;> rw[e] <;> decide
 |tail _ hw=>
  rcases List.mem_append.1 hw with hw|hw
  ·exact yb ⟨dC,dC⟩ h4 w hw
  exact ybS h2 w hw
theorem yay:∀(l:List Cnd) (v:bJ),(yae v l).length=4*l.length
 |[],_=>rfl
 |c::l,v=>by rw[yae,List.length_append,yay l yah];simp only [yax,List.length_cons,List.length_nil];omega
theorem yba(g:Int):(yal g).length≤2:=by
 unfold yal
 cases g==0 <;> simp
theorem ybN(q:Qry):(yak q).length≤645:=by
 unfold yak
 cases h:yag q==0 with
 |false=>exact Nat.zero_le _
 |true=>
  have he:yag q=0:=by simpa using h
  have h1:=tP (c:=14) fun x hx=>(ybY he x hx).1
  have h2:(yas q).length≤43:=by have:=(yaJ he).2.2.1;have:=yba q.grp;rw[yas,List.length_cons,List.length_append,yay];omega
  show(iO (yas q)).length≤645;omega
def yaz(l:List bJ)(x:bJ):Int:=Lib.idxOfS (l.map bs) (bs x)
def yaj(s:RS):Cnd×RS:=
 let f:=yaz yaa (dL s).1
 let o:=dL (dL s).2
 bif yaf f then(⟨f,bs o.1,0,bs (dL o.2).1⟩,(dL o.2).2)else(⟨f,bs o.1,(rdNum o.2).1,bs []⟩,(rdNum o.2).2)
def yai(w:bJ)(s:RS):Bool:= !s.1.isEmpty&&s.1.headD []==w
def yan(w:bJ)(s:RS):RS:=bif yai w s then(dL s).2 else s
def yam:Nat→Bool→RS→List Cnd×RS
 |0,_,s=>([],s)
 |n+1,m,s=>bif m&& !s.2 then((yaj s).1::(yam n (yai yah (yaj s).2) (yan yah (yaj s).2)).1,(yam n (yai yah (yaj s).2) (yan yah (yaj s).2)).2)else([],s)
def ya5(s:RS):Qry×RS:=
 let a:=dL s
 let c:=yam (a.2.1.length+1) (yai ya a.2) (yan ya a.2)
 bif yai wBy c.2 then(⟨yaz yaA a.1,c.1,yaz yaa (dL (dL c.2).2).1⟩,(dL (dL c.2).2).2)else(⟨yaz yaA a.1,c.1,0⟩,c.2)
theorem ybL{n:Int}(h:0≤n∧n≤5):yaz yaa (yaa.getD n.toNat [])=n:=by rcases(by omega:n=0∨n=1∨n=2∨n=3∨n=4∨n=5)with e|e|e|e|e|e <;> rw[e] <;> decide+kernel
theorem ycp{n:Int}(h:0≤n∧n≤2):yaz yaA (yaA.getD n.toNat [])=n:=by rcases(by omega:n=0∨n=1∨n=2)with e|e|e <;> rw[e] <;> decide+kernel
theorem ybl{c:Cnd}(h:yab c=0)(r:List bJ):yaj (yax c++r,false)=(yaw c,(r,false)):=by
 obtain⟨h1,h2,h3,h4⟩:=yaP h;have hf:yaz yaa (yaa.getD c.field.toNat [])=c.field:=ybL ⟨oM,oM⟩;unfold yaj yaw yax;simp only [List.cons_append,List.nil_append,mZ,hf]
 cases hn:yaf c.field with
 |true=>simp only [cond_true,CJ]
 |false=>have:=h3 hn;simp only [cond_false,gS (n:=c.num) oM,CJ]
theorem ycc{g:Int}(w:bJ)(hw:w≠wBy)(b:Bool):yai w (yal g,b)=false:=by
 unfold yai yal
 cases g==0 with
 |true=>rfl
 |false=>show(!false&&wBy==w)=false;simpa using fun e:wBy=w=>hw e.symm
theorem ya7{g:Int}:∀{l:List Cnd} {c:Cnd} {n:Nat},l.length<n→(∀x∈c::l,yab x=0)→yam n true (yax c++(yae yah l++yal g),false)=((c::l).map yaw,(yal g,false))
 |[],c,n+1,_,h=>by
  rw[yam];simp only [Bool.not_false,Bool.and_self,cond_true,ybl (h c (List.mem_cons_self ..)),yae,List.nil_append,yan,ycc yah dC,cond_false]
  cases n <;> rfl
 |d::l,c,n+1,hn,h=>by
  have hk:yai yah (yae yah (d::l)++yal g,false)=true:=by rw[yae];exact beq_self_eq_true yah
  have ih:=ya7 (g:=g) (l:=l) (c:=d) (n:=n) (by simpa using hn) (fun x hx=>h x (List.mem_cons_of_mem _ hx));rw[yam];simp only [Bool.not_false,Bool.and_self,cond_true,ybl (h c (List.mem_cons_self ..)),yan,hk];have e:(dL (yae yah (d::l)++yal g,false)).2=(yax d++(yae yah l++yal g),false):=by rw[yae,List.cons_append,List.cons_append,mZ,List.append_assoc]
  rw[e,ih];rfl
theorem yb4{q:Qry}(h:yag q=0):ya5 (yas q,false)=(yaB q,([],false)):=by
 obtain⟨h1,h2,h3,h4⟩:=yaJ h;have hc:yam ((yae ya q.conds++yal q.grp).length+1) (yai ya (yae ya q.conds++yal q.grp,false)) (yan ya (yae ya q.conds++yal q.grp,false))=(q.conds.map yaw,(yal q.grp,false)):=by
  cases hq:q.conds with
  |nil=>simp only [yae,List.nil_append,yan,ycc ya dC,cond_false];rfl
  |cons c l=>
   have hk:yai ya (yae ya (c::l)++yal q.grp,false)=true:=by rw[yae];exact beq_self_eq_true ya
   have e:(dL (yae ya (c::l)++yal q.grp,false)).2=(yax c++(yae yah l++yal q.grp),false):=by rw[yae,List.cons_append,List.cons_append,mZ,List.append_assoc]
   rw[yan,hk,cond_true,e];refine ya7 ?_ (fun x hx=>h4 x (hq▸hx));rw[List.length_append,yay,List.length_cons];omega
 unfold ya5 yas;simp only [mZ,hc,ycp h1];unfold yaB
 cases hg:q.grp==0 with
 |true=>
  have e:q.grp=0:=by simpa using hg
  rw[e];rfl
 |false=>
  have e:yal q.grp=[wBy,yaa.getD q.grp.toNat []]:=by unfold yal;rw[hg];rfl
  have e2:yai wBy ([wBy,yaa.getD q.grp.toNat []],false)=true:=beq_self_eq_true wBy;rw[e,e2];simp only [cond_true,mZ,ybL h2]
def yaq(x:bJ):Nat→List bJ→Int
 |_,[]=> -1
 |i,y::l=>bif (bs y).toList==(bs x).toList then(i:Int)else yaq x (i+1) l
def yaQ(a b c:bJ):Cnd:=bif yaf (yaq a 0 yaa)then⟨yaq a 0 yaa,bs b,0,bs c⟩else⟨yaq a 0 yaa,bs b,nmV c,bs []⟩
def yaF(l:List bJ):Bool:=decide (3<l.length)&&(l.headD []==ya||l.headD []==yah)
def yar:Nat→List bJ→List Cnd×List bJ
 |0,l=>([],l)
 |n+1,l=>bif yaF l then(yaQ (l.getD 1 []) (l.getD 2 []) (l.getD 3 [])::(yar n (l.drop 4)).1,(yar n (l.drop 4)).2)else([],l)
def ybm(l:List bJ):Qry:=
 let c:=yar l.length (l.drop 1)
 ⟨yaq (l.getD 0 []) 0 yaA,c.1,bif decide (1<c.2.length)&&c.2.headD []==wBy then yaq (c.2.getD 1 []) 0 yaa else 0⟩
theorem ybX{n:Int}(h:0≤n∧n≤5):yaq (yaa.getD n.toNat []) 0 yaa=n:=by rcases(by omega:n=0∨n=1∨n=2∨n=3∨n=4∨n=5)with e|e|e|e|e|e <;> rw[e] <;> decide+kernel
theorem ycy{n:Int}(h:0≤n∧n≤2):yaq (yaA.getD n.toNat []) 0 yaA=n:=by rcases(by omega:n=0∨n=1∨n=2)with e|e|e <;> rw[e] <;> decide+kernel
theorem yb5{c:Cnd}(h:yab c=0):yaQ (yaa.getD c.field.toNat []) (tx c.op) (bif yaf c.field then tx c.name else Lib.itoa c.num)=yaw c:=by
 obtain⟨h1,h2,h3,h4⟩:=yaP h;unfold yaQ yaw;rw[ybX (n:=c.field) ⟨oM,oM⟩]
 cases hn:yaf c.field with
 |true=>simp only [cond_true,CJ]
 |false=>have:=h3 hn;simp only [cond_false,CJ,yco (n:=c.num) ⟨oM,oM⟩]
theorem yb7{g:Int}:yaF (yal g)=false:=by unfold yaF;rw[decide_eq_false (by have:=yba g;omega)];rfl
theorem ya8{g:Int}:∀{l:List Cnd} {v:bJ} {n:Nat},v=ya∨v=yah→l.length≤n→(∀x∈l,yab x=0)→yar n (yae v l++yal g)=(l.map yaw,yal g)
 |[],v,n,_,_,_=>by
  rw[yae,List.nil_append]
  cases n with
  |zero=>rfl
  |succ n=>rw[yar,yb7];rfl
 |c::l,v,n+1,hv,hn,h=>by
  have ih:=ya8 (g:=g) (l:=l) (v:=yah) (n:=n) (.inr rfl) (by simpa using hn) (fun x hx=>h x (List.mem_cons_of_mem _ hx));have hm:yaF (yae v (c::l)++yal g)=true:=by unfold yaF;rw[decide_eq_true (by rw[List.length_append,yay,List.length_cons];omega)];show(v==ya||v==yah)=true;rcases hv with rfl|rfl <;> decide
  rw[yar,hm,cond_true];have e:(yae v (c::l)++yal g).drop 4=yae yah l++yal g:=rfl;rw[e,ih];exact congrArg (fun x=>(x::l.map yaw,yal g)) (yb5 (h c (List.mem_cons_self ..)))
theorem yb8{q:Qry}(h:yag q=0):ybm (yas q)=yaB q:=by
 obtain⟨h1,h2,h3,h4⟩:=yaJ h;have hc:yar (yas q).length ((yas q).drop 1)=(q.conds.map yaw,yal q.grp):=by refine ya8 (.inl rfl) ?_ h4;rw[yas,List.length_cons,List.length_append,yay];omega
 unfold ybm;rw[hc];unfold yas yaB;simp only [List.getD_cons_zero,ycy h1]
 cases hg:q.grp==0 with
 |true=>
  have e:q.grp=0:=by simpa using hg
  rw[e];rfl
 |false=>
  have e:yal q.grp=[wBy,yaa.getD q.grp.toNat []]:=by unfold yal;rw[hg];rfl
  have e2:(decide (1< [wBy,yaa.getD q.grp.toNat []].length)&& [wBy,yaa.getD q.grp.toNat []].headD []==wBy)=true:=beq_self_eq_true wBy;rw[e,e2];simp only [cond_true,List.getD_cons_succ,List.getD_cons_zero,ybX h2]
theorem yca(c:Cnd):yab (yaw c)=yab c∧yax (yaw c)=yax c:=by
 unfold yab yax yaC yaw
 cases hn:yaf c.field with
 |true=>simp
 |false=>simp
theorem ybf:∀(l:List Cnd),yau (l.map yaw)=yau l∧∀v,yae v (l.map yaw)=yae v l
 |[]=>⟨rfl,fun _=>rfl⟩
 |c::l=>by obtain⟨h1,h2⟩:=yca c;obtain⟨h3,h4⟩:=ybf l;exact⟨by rw[List.map_cons,yau,yau,h1,h3],fun v=>by rw[List.map_cons,yae,yae,h2,h4]⟩
theorem ybA(q:Qry):yag (yaB q)=yag q∧yak (yaB q)=yak q:=by
 obtain⟨h3,h4⟩:=ybf q.conds;have e:yag (yaB q)=yag q:=by unfold yag yaB;simp only [List.length_map,h3]
 refine⟨e,?_⟩;unfold yak;rw[e];unfold yas yaB;simp only [h4]
def ybM:Qry:=⟨0,[],0⟩
def rqT(s:bJ):Qry×RS:=ya5 (sG s [32],false)
def rqB(s:bJ):Bool:=(rqT s).2.2||yag (rqT s).1 !=0||(bs (yak (rqT s).1)).toList !=(bs s).toList
def rqE(s:bJ):Int:=bif rqB s then 7 else 0
def rqQ(s:bJ):Qry:=bif rqB s then ybM else(rqT s).1
def yaG(s:bJ):Qry:=ybm (yac 32 s)
def pqB(s:bJ):Bool:=yag (yaG s) !=0||(bs (yak (yaG s))).toList !=(bs s).toList
def pqE(s:bJ):Int:=bif pqB s then 7 else 0
def pqQ(s:bJ):Qry:=bif pqB s then ybM else yaG s
theorem ycs{q:Qry}(h:yag q=0):rqT (yak q)=(yaB q,([],false))∧yaG (yak q)=yaB q:=by
 have e:yak q=iO (yas q):=by unfold yak;rw[h];rfl
 have hw:yas q≠[]:=by unfold yas;simp
 have hn:=fun w hw=>(ybY h w hw).2
 constructor
 ·unfold rqT;rw[EA,e,IL hw hn,yb4 h]
 unfold yaG;rw[e,ybZ hw hn,yb8 h]
theorem ya3{q:Qry}(h:yag q=0):rqB (yak q)=false∧rqQ (yak q)=yaB q∧pqB (yak q)=false∧pqQ (yak q)=yaB q:=by
 obtain⟨a,b⟩:=ycs h;obtain⟨c,d⟩:=ybA q;have h1:rqB (yak q)=false:=by unfold rqB;rw[a];simp[c,d,h]
 have h2:pqB (yak q)=false:=by unfold pqB;rw[b];simp[c,d,h]
 exact⟨h1,by unfold rqQ;rw[h1,a];rfl,h2,by unfold pqQ;rw[h2,b];rfl⟩
theorem yck{s:bJ}(h:rqB s=false):yag (rqT s).1=0∧yak (rqT s).1=s:=by unfold rqB at h;simp only [Bool.or_eq_false_iff,bne_eq_false_iff_eq]at h;refine⟨h.1.2,?_⟩;have e:=yaK (yak (rqT s).1) s;rw[h.2,beq_self_eq_true]at e;exact eq_of_beq e.symm
theorem yce{s:bJ}(h:pqB s=false):yag (yaG s)=0∧yak (yaG s)=s:=by unfold pqB at h;simp only [Bool.or_eq_false_iff,bne_eq_false_iff_eq]at h;refine⟨h.1,?_⟩;have e:=yaK (yak (yaG s)) s;rw[h.2,beq_self_eq_true]at e;exact eq_of_beq e.symm
theorem yct(s:bJ):rqE s=pqE s∧rqQ s=pqQ s:=by
 unfold rqE pqE
 cases h1:rqB s with
 |false=>obtain⟨a,b⟩:=yck h1;obtain⟨_,c,d,e⟩:=ya3 a;rw[b]at c d e;rw[d];exact⟨rfl,by rw[c,e]⟩
 |true=>
  cases h2:pqB s with
  |false=>
   obtain⟨a,b⟩:=yce h2;obtain⟨c,_⟩:=ya3 a;rw[b,h1]at c
   cases c
  |true=>exact⟨rfl,by unfold rqQ pqQ;rw[h1,h2];rfl⟩
structure Cnd.fits(c:Cnd):Prop where
 lo: -9223372036854775808≤c.num
 hi:c.num≤9223372036854775807
 op:c.op.size≤9223372036854775807
 name:c.name.size≤9223372036854775807
structure Qry.fits(q:Qry):Prop where
 len:q.conds.length≤9223372036854775807
 conds:∀c∈q.conds,c.fits
abbrev ycm(c:Cnd):List SV:=[.d (dI c.field),.d (dS c.op),.d (dI c.num),.d (dS c.name)]
def ybE(c:Cnd):Nat→DV
 |0=>dI c.field
 |1=>dS c.op
 |2=>dI c.num
 |3=>dS c.name
 |_=>.bL
def ya4(l:List Cnd):Nat→Nat→DV:=fun i=>ybE (l.getD i default)
def yaX(l:List Cnd):DV:=.fU l.length 4 (ya4 l)
abbrev yaE(q:Qry):List SV:=[.d (dI q.mea),.d (yaX q.conds),.d (dI q.grp)]
abbrev ybq(q:Qry):AV:=.g (yaE q)
theorem ycJ{a b:bJ}{f:Nat→Nat→DV}(h0:f 0 0=dT a)(h1:f 1 0=dT b):aK (.fU 2 1 f) (J4 [a,b]):=
 aK.wE rfl fun i j hi hj=>by
  obtain rfl:j=0:=oM
  match i,hi with
  |0,_=>exact aK.of_eq h0
  |1,_=>exact aK.of_eq h1
theorem ycC{a b c:bJ}{f:Nat→Nat→DV}(h0:f 0 0=dT a)(h1:f 1 0=dT b)(h2:f 2 0=dT c):aK (.fU 3 1 f) (J4 [a,b,c]):=
 aK.wE rfl fun i j hi hj=>by
  obtain rfl:j=0:=oM
  match i,hi with
  |0,_=>exact aK.of_eq h0
  |1,_=>exact aK.of_eq h1
  |2,_=>exact aK.of_eq h2
theorem yb0{a b c d e g:bJ}{f:Nat→Nat→DV}(h0:f 0 0=dT a)(h1:f 1 0=dT b)(h2:f 2 0=dT c)(h3:f 3 0=dT d)(h4:f 4 0=dT e)(h5:f 5 0=dT g):aK (.fU 6 1 f) (J4 [a,b,c,d,e,g]):=
 aK.wE rfl fun i j hi hj=>by
  obtain rfl:j=0:=oM
  match i,hi with
  |0,_=>exact aK.of_eq h0
  |1,_=>exact aK.of_eq h1
  |2,_=>exact aK.of_eq h2
  |3,_=>exact aK.of_eq h3
  |4,_=>exact aK.of_eq h4
  |5,_=>exact aK.of_eq h5
theorem ybI:aF prog 15 [] (.s (.d (J4 yaA))):=by exact eP func15 rfl rfl call15 rfl rfl fun cx aA=>aC.le (ycC rfl rfl rfl)
theorem yaI:aF prog 19 [] (.s (.d (J4 yaa))):=by exact eP func19 rfl rfl call19 rfl rfl fun cx aA=>aC.le (yb0 rfl rfl rfl rfl rfl rfl)
theorem yaD(n:Int):aF prog 18 [vI n] (vB (yaf n)):=by
 refine eP func18 rfl rfl call18 rfl rfl fun cx aA=>?_
 repeat refine aR ?_
 exact aC.lit rfl
theorem ybs(l:List bJ)(x:bJ)(hl:l.length≤9223372036854775807):aF prog 48 [.s (.d (J4 l)),vT x] (vB (l.contains x)):=by
 refine eP func48 rfl rfl call48 rfl rfl fun cx aA=>aB (aKH l x hl) (aC.lit ?_)
 have h:=Lib.idxOfS_nonneg_iff (l.map bs) (bs x);have h2:bs x∈l.map bs↔x∈l:=by rw[List.mem_map];exact⟨fun ⟨y,hy,e⟩=>by rw[←nF x,←e,nF];exact hy,fun h=>⟨x,h,rfl⟩⟩
 rw[h2,←List.contains_iff_mem]at h;show decide (Lib.idxOfS (l.map bs) (bs x)≥0)=l.contains x;rw[Bool.eq_iff_iff,decide_eq_true_eq];exact h
theorem yc(c:Cnd)(hc:c.fits):aF prog 16 [.g (ycm c)] (vI (yab c)):=by
 have hx:dS c.op=dT (tx c.op):=aDC _;refine eP func16 rfl rfl call16 rfl rfl fun cx aA=>aB (yaD c.field) (aI (fun h=>?_) (fun h=>?_))
 ·have h:yaf c.field=true:=h;have hp:yaC c=(yav.take 2).contains (tx c.op):=by unfold yaC;rw[h];rfl
  refine oi ⟨dC,dC,dC⟩ (aB (lV 1 5 c.field rfl) ?_);refine aI (fun h2=>?_) (fun h2=>?_)
  ·have h2:(!within c.field 1 5)=true:=h2;exact aC.of_eq (by unfold yab;rw[h2];rfl)
  have h2:(!within c.field 1 5)=false:=h2;refine aB ((ybs (yav.take 2) (tx c.op) dC).conv (args':=_) ⟨ycJ rfl rfl,aK.of_eq hx,oO⟩) (aI (fun h3=>?_) (fun h3=>?_))
  ·have h3:(!(yav.take 2).contains (tx c.op))=true:=h3;exact aC.of_eq (by unfold yab;rw[h2,hp,h3];rfl)
  have h3:(!(yav.take 2).contains (tx c.op))=false:=h3;refine aB (yaD c.field) ?_;repeat refine aR ?_
  refine aI (fun h4=>absurd (show(!yaf c.field)=true from h4) (by rw[h];decide)) (fun h4=>?_);repeat refine aR ?_
  refine aB (yaD c.field) ?_;repeat refine aR ?_
  refine bR (BJ c.name hc.name) ?_;repeat refine aR ?_
  refine aI (fun h6=>?_) (fun h6=>?_)
  ·have h6:(yaf c.field&& !isName c.name)=true:=h6;exact aC.of_eq (by unfold yab;rw[h2,hp,h3,h];rw[h]at h6;rw[show(!isName c.name)=true from h6];rfl)
  have h6:(yaf c.field&& !isName c.name)=false:=h6;exact aC.of_eq (by unfold yab;rw[h2,hp,h3,h];rw[h]at h6;rw[show(!isName c.name)=false from h6];rfl)
 have h:yaf c.field=false:=h;have hp:yaC c=yav.contains (tx c.op):=by unfold yaC;rw[h];rfl
 refine aB (lV 1 5 c.field rfl) (aI (fun h2=>?_) (fun h2=>?_))
 ·have h2:(!within c.field 1 5)=true:=h2;exact aC.of_eq (by unfold yab;rw[h2];rfl)
 have h2:(!within c.field 1 5)=false:=h2;refine aB ((ybs yav (tx c.op) dC).conv (args':=_) ⟨yb0 rfl rfl rfl rfl rfl rfl,aK.of_eq hx,oO⟩) (aI (fun h3=>?_) (fun h3=>?_))
 ·have h3:(!yav.contains (tx c.op))=true:=h3;exact aC.of_eq (by unfold yab;rw[h2,hp,h3];rfl)
 have h3:(!yav.contains (tx c.op))=false:=h3;refine aB (yaD c.field) ?_;repeat refine aR ?_
 refine aI (fun h4=>?_) (fun h4=>absurd (show(!yaf c.field)=false from h4) (by rw[h];decide));refine ob (show(!yaf c.field)=true by rw[h];rfl) ?_;refine aB (lV 0 1000000 c.num rfl) ?_;repeat refine aR ?_
 refine aI (fun h6=>?_) (fun h6=>?_)
 ·have h6:(!within c.num 0 1000000)=true:=h6;exact aC.of_eq (by unfold yab;rw[h2,hp,h3,h,h6];rfl)
 have h6:(!within c.num 0 1000000)=false:=h6;refine aB (yaD c.field) ?_;repeat refine aR ?_
 refine bR (BJ c.name hc.name) ?_;repeat refine aR ?_
 refine aI (fun h7=>?_) (fun h7=>?_)
 ·have h7:(yaf c.field&& !isName c.name)=true:=h7;rw[h]at h7;cases h7
 exact aC.of_eq (by unfold yab;rw[h2,hp,h3,h,h6];rfl)
def yad(q:Qry)(i:Nat):List bJ:=yaA.getD q.mea.toNat []::yae ya (q.conds.take i)
theorem ybh:∀(l:List Cnd) (v:bJ) (c:Cnd),yae v (l++ [c])=yae v l++((bif l.isEmpty then v else yah)::yax c)
 |[],v,c=>by simp[yae]
 |a::l,v,c=>by
  rw[List.cons_append,yae,ybh l yah c,yae]
  cases l <;> simp
theorem ybg(q:Qry){i:Nat}(h:i<q.conds.length):yad q (i+1)=yad q i++((bif i==0 then ya else yah)::yax (q.conds.getD i default)):=by
 unfold yad;have e:q.conds.take (i+1)=q.conds.take i++ [q.conds.getD i default]:=by rw[List.take_add_one,List.getElem?_eq_getElem h,List.getD_eq_getElem?_getD,List.getElem?_eq_getElem h];rfl
 have e2:(q.conds.take i).isEmpty=(i==0):=by
  cases i with
  |zero=>rfl
  |succ i=>
   cases hq:q.conds with
   |nil=>rw[hq]at h;cases h
   |cons a l=>rfl
 rw[e,ybh,e2,List.cons_append]
theorem ya0(q:Qry){i:Nat}(h:i≤q.conds.length):(yad q i).length=4*i+1:=by unfold yad;rw[List.length_cons,yay,List.length_take];omega
theorem ybF(l:List Cnd){i:Nat}(h:i<l.length):yau (l.drop i)=bif yab (l.getD i default)==0 then yau (l.drop (i+1))else yab (l.getD i default):=by
 have e:l.drop i=l.getD i default::l.drop (i+1):=by rw[List.getD_eq_getElem?_getD,List.getElem?_eq_getElem h];exact List.drop_eq_getElem_cons h
 rw[e,yau]
theorem ybR{n k:Nat}{f g:Nat→Nat→DV}{l r:List bJ}(hf:iJ 1 n f (fun t _=>dT t) l)(hg:∀i,i<k→g i 0=dT (r.getD i [])){i:Nat}(hi:i<n+k):jM n f g i 0=dT ((l++r).getD i []):=by
 obtain⟨h1,h2⟩:=hf;by_cases jA:i<n
 ·refine(show jM n f g i 0=f i 0 from if_pos jA).trans ?_;rw[h2 i 0 jA dC];show dT (l.getD i default)=dT ((l++r).getD i []);simp only [List.getD_eq_getElem?_getD,List.getElem?_append_left (h1▸jA)];rfl
 refine(show jM n f g i 0=g (i - n) 0 from if_neg jA).trans ?_;rw[hg (i - n) oM];show dT (r.getD (i - n) [])=dT ((l++r).getD i []);simp only [List.getD_eq_getElem?_getD,List.getElem?_append_right (show l.length≤i by omega)];rw[h1]
theorem ycI{n k:Nat}{f g:Nat→Nat→DV}{l r:List bJ}{e:TypeId}(hf:iJ 1 n f (fun t _=>dT t) l)(hk:k=r.length)(hg:∀i,i<k→g i 0=dT (r.getD i [])):aY (.row e (n+k) 1 (jM n f g)) (.row e (l++r).length 1 (uJ (l++r))):=
 aY.row (by rw[List.length_append,hk,hf.1]) fun i j hi hj=>by obtain rfl:j=0:=oM;exact aK.of_eq (ybR hf hg hi)
theorem ycD{n k:Nat}{f g:Nat→Nat→DV}{l r:List bJ}(hf:iJ 1 n f (fun t _=>dT t) l)(hk:k=r.length)(hg:∀i,i<k→g i 0=dT (r.getD i [])):aK (.fU (n+k) 1 (jM n f g)) (J4 (l++r)):=
 aK.wE (by rw[List.length_append,hk,hf.1]) fun i j hi hj=>by obtain rfl:j=0:=oM;exact aK.of_eq (ybR hf hg hi)
theorem ycw{q:Qry}(he:yag q=0):aF prog 20 [.s (.d (J4 (yas q))),vT [32]] (vT (yak q)):=by
 have hw:(yas q).length≤43:=by have:=(yaJ he).2.2.1;have:=yba q.grp;rw[yas,List.length_cons,List.length_append,yay];omega
 have hl:=ybN q;have hk:yak q=Lib.join (yas q) [32]:=by unfold yak;rw[he];rfl
 rw[hk]at hl ⊢;exact aKG (yas q) [32] oM oM
theorem yaV(q:Qry)(hq:q.fits):aF prog 6 [ybq q] (.t [.s (.d (dT (yak q))),.s (.d (dI (yag q)))]):=by
 have bad:∀{n:Int},n≠0→yag q=n→aC (.t [.s (.d (dT [])),.s (.d (dI n))]) (.t [.s (.d (dT (yak q))),.s (.d (dI (yag q)))]):=by intro n hn he;refine aC.of_eq ?_;unfold yak;rw[he,show(n==0)=false by simpa using hn];rfl
 refine gI (rc:=[2000020]) (N:=83) func6 rfl rfl call6 aJ mix rfl rfl (fun cx aA=>?_);refine aB (lV 0 2 q.mea rfl) ?_;repeat refine aR ?_
 refine aI (fun a1=>?_) (fun a1=>?_)
 ·have a1:(!within q.mea 0 2)=false:=a1;refine ob (show(!(!within q.mea 0 2))=true by rw[a1];rfl) ?_;refine aB (lV 0 5 q.grp rfl) ?_;repeat refine aR ?_
  refine aI (fun a2=>?_) (fun a2=>?_)
  ·have a2:(!within q.grp 0 5)=true:=a2;exact bad (n:=2) dC (by unfold yag;rw[a1,a2];rfl)
  have a2:(!within q.grp 0 5)=false:=a2;refine aI (fun a3=>?_) (fun a3=>?_)
  ·have a3:decide ((q.conds.length:Int)>10)=true:=a3;exact bad (n:=8) dC (by unfold yag;rw[a1,a2,a3];rfl)
  have a3:decide ((q.conds.length:Int)>10)=false:=a3;have hE:yag q=yau q.conds:=by unfold yag;rw[a1,a2,a3];rfl
  have m1:=within_iff.1 (show within q.mea 0 2=true by simpa using a1);have m2:=within_iff.1 (show within q.grp 0 5=true by simpa using a2);have m3:q.conds.length≤10:=by have:=of_decide_eq_false a3;omega
  refine aB (ybI) (ob (show 0≤q.mea∧q.mea<3 from⟨m1.1,oM⟩) ?_);refine aD ?_;refine AW.cG (fun i:Nat=>⟨[(1,.s (.ptr 1 0)),(4,.s (.own 100)),(35,.s (.d (yaX q.conds))),(36,vI q.conds.length),(37,vI i)],[(1,some (.cells (yaE q))),(100,some (.row 9 (yad q i).length 1 (uJ (yad q i))))]⟩)
   (fun i=>i≤q.conds.length∧yau q.conds=yau (q.conds.drop i)) (fun i=>q.conds.length - i) 0 ⟨Nat.zero_le _,rfl⟩ ?_ ?_
  ·refine aM.bD aA [(100,33)] rfl ⟨bQ,⟨rfl,?_⟩,oO⟩ ⟨qZ,qZ,qZ,qZ,qZ,oO⟩;exact aY.row rfl fun i j hi hj=>by
    obtain rfl:i=0:=by have:i<1:=hi;omega
    obtain rfl:j=0:=by have:j<1:=hj;omega
    exact aK.refl _
  rintro i ⟨hi,he⟩;refine ex.sound (rc:=[2000020]) aJ mix aA _ (aI (fun h=>?_) (fun h=>?_))
  ·have h:(i:Int)<(q.conds.length:Int):=bG h;have bC:i<q.conds.length:=oM;have hx:=ybF q.conds bC;have hm:q.conds.getD i default∈q.conds:=by rw[List.getD_eq_getElem?_getD,List.getElem?_eq_getElem bC];exact List.getElem_mem _
   have hs:=ybg q bC;have hlen:=ya0 q hi;have hc:=hq.conds _ hm;refine oi ⟨oM,oM⟩ (aB (yc (q.conds.getD i default) hc) ?_);refine aI (fun h4=>?_) (fun h4=>?_)
   ·have h4:(yab (q.conds.getD i default) !=0)=true:=h4;have h5:(yab (q.conds.getD i default)==0)=false:=by simpa [bne]using h4
    exact bad (n:=yab (q.conds.getD i default)) (by simpa using h4) (by rw[hE,he,hx,h5];rfl)
   have h4:(yab (q.conds.getD i default) !=0)=false:=h4;have h5:(yab (q.conds.getD i default)==0)=true:=by simpa [bne]using h4
   have hx:yau (q.conds.drop i)=yau (q.conds.drop (i+1)):=by rw[hx,h5];rfl
   obtain⟨f1,f2,f3,f4⟩:=yaP (show yab (q.conds.getD i default)=0 by simpa using h4);refine aB (D6 (q.conds.getD i default).num hc.lo hc.hi) ?_;have fin:∀{g:Nat→Nat→DV} {a b:bJ},g 0 0=dT a→g 1 0=dT (yaa.getD (q.conds.getD i default).field.toNat [])→g 2 0=dT (tx (q.conds.getD i default).op)→g 3 0=dT b→a=(bif i==0 then ya else yah)→b=(bif yaf (q.conds.getD i default).field then tx (q.conds.getD i default).name else Lib.itoa (q.conds.getD i default).num)→aY (.row 9 ((yad q i).length+4) 1 (jM (yad q i).length (uJ (yad q i)) g)) (.row 9 (yad q (i+1)).length 1 (uJ (yad q (i+1)))):=by
    intro g a b g0 g1 g2 g3 ea eb;rw[hs];refine ycI (L5 _) rfl fun k hk=>?_
    match k,hk with
    |0,_=>rw[g0,ea];rfl
    |1,_=>rw[g1];rfl
    |2,_=>rw[g2];rfl
    |3,_=>rw[g3,eb];rfl
   have n0:((i:Int)==0)=(i==0):=by rw[Bool.eq_iff_iff,beq_iff_eq,beq_iff_eq];omega
   refine aI (fun h6=>?_) (fun h6=>?_)
   ·have h6:((i:Int)==0)=true:=h6;rw[n0]at h6;refine aB (yaD (q.conds.getD i default).field) (aI (fun h7=>?_) (fun h7=>?_))
    ·have h7:yaf (q.conds.getD i default).field=true:=h7;refine aB (yaI) (ob (show 0≤(q.conds.getD i default).field∧(q.conds.getD i default).field<6 from⟨oM,oM⟩) ?_);refine ob (show((yad q i).length+4)*16≤_ by omega) ?_;refine ob (fun k j hk hj=>by
      obtain rfl:j=0:=by have:j<1:=hj;omega
      match k,hk with
      |0,_=>rfl
      |1,_=>rfl
      |2,_=>rfl
      |3,_=>rfl) ?_
     refine aD ⟨i+1,⟨oM,he.trans hx⟩,oM,?_⟩;exact aM.bD aA [(100,68)] rfl ⟨bQ,⟨rfl,fin (a:=ya) (b:=tx (q.conds.getD i default).name) rfl rfl (aDC _) (aDC _) (by rw[h6];rfl) (by rw[h7];rfl)⟩,oO⟩ ⟨qZ,qZ,qZ,qZ,⟨rfl,aU.int (aG oM oM)⟩,oO⟩
    have h7:yaf (q.conds.getD i default).field=false:=h7;refine aB (yaI) (ob (show 0≤(q.conds.getD i default).field∧(q.conds.getD i default).field<6 from⟨oM,oM⟩) ?_);refine ob (show((yad q i).length+4)*16≤_ by omega) ?_;refine ob (fun k j hk hj=>by
     obtain rfl:j=0:=by have:j<1:=hj;omega
     match k,hk with
     |0,_=>rfl
     |1,_=>rfl
     |2,_=>rfl
     |3,_=>rfl) ?_
    refine aD ⟨i+1,⟨oM,he.trans hx⟩,oM,?_⟩;exact aM.bD aA [(100,68)] rfl ⟨bQ,⟨rfl,fin (a:=ya) (b:=Lib.itoa (q.conds.getD i default).num) rfl rfl (aDC _) (rfl) (by rw[h6];rfl) (by rw[h7];rfl)⟩,oO⟩ ⟨qZ,qZ,qZ,qZ,⟨rfl,aU.int (aG oM oM)⟩,oO⟩
   have h6:((i:Int)==0)=false:=h6;rw[n0]at h6;refine aB (yaD (q.conds.getD i default).field) (aI (fun h7=>?_) (fun h7=>?_))
   ·have h7:yaf (q.conds.getD i default).field=true:=h7;refine aB (yaI) (ob (show 0≤(q.conds.getD i default).field∧(q.conds.getD i default).field<6 from⟨oM,oM⟩) ?_);refine ob (show((yad q i).length+4)*16≤_ by omega) ?_;refine ob (fun k j hk hj=>by
     obtain rfl:j=0:=by have:j<1:=hj;omega
     match k,hk with
     |0,_=>rfl
     |1,_=>rfl
     |2,_=>rfl
     |3,_=>rfl) ?_
    refine aD ⟨i+1,⟨oM,he.trans hx⟩,oM,?_⟩;exact aM.bD aA [(100,68)] rfl ⟨bQ,⟨rfl,fin (a:=yah) (b:=tx (q.conds.getD i default).name) rfl rfl (aDC _) (aDC _) (by rw[h6];rfl) (by rw[h7];rfl)⟩,oO⟩ ⟨qZ,qZ,qZ,qZ,⟨rfl,aU.int (aG oM oM)⟩,oO⟩
   have h7:yaf (q.conds.getD i default).field=false:=h7;refine aB (yaI) (ob (show 0≤(q.conds.getD i default).field∧(q.conds.getD i default).field<6 from⟨oM,oM⟩) ?_);refine ob (show((yad q i).length+4)*16≤_ by omega) ?_;refine ob (fun k j hk hj=>by
    obtain rfl:j=0:=by have:j<1:=hj;omega
    match k,hk with
    |0,_=>rfl
    |1,_=>rfl
    |2,_=>rfl
    |3,_=>rfl) ?_
   refine aD ⟨i+1,⟨oM,he.trans hx⟩,oM,?_⟩;exact aM.bD aA [(100,68)] rfl ⟨bQ,⟨rfl,fin (a:=yah) (b:=Lib.itoa (q.conds.getD i default).num) rfl rfl (aDC _) (rfl) (by rw[h6];rfl) (by rw[h7];rfl)⟩,oO⟩ ⟨qZ,qZ,qZ,qZ,⟨rfl,aU.int (aG oM oM)⟩,oO⟩
  have h:¬(i:Int)<(q.conds.length:Int):=bF h;have e:i=q.conds.length:=oM;have h0:yag q=0:=by rw[hE,he,e,List.drop_length];rfl
  have hP:yad q i++yal q.grp=yas q:=by unfold yad yas;rw[e,List.take_length,List.cons_append]
  have hlen:=ya0 q hi;rw[h0];refine aI (fun h8=>?_) (fun h8=>?_)
  ·have h8:(q.grp !=0)=true:=h8;have hg:yal q.grp=[wBy,yaa.getD q.grp.toNat []]:=by unfold yal;rw[show(q.grp==0)=false by simpa [bne]using h8];rfl
   refine aB (yaI) (ob (show 0≤q.grp∧q.grp<6 from⟨oM,oM⟩) ?_);refine ob (show((yad q i).length+2)*16≤_ by omega) ?_;refine ob (fun k j hk hj=>by
    obtain rfl:j=0:=by have:j<1:=hj;omega
    match k,hk with
    |0,_=>rfl
    |1,_=>rfl) ?_
   refine aD ⟨[80],_,(ycw h0).conv (args':=_) ⟨?_,aK.refl _,oO⟩,aC.refl _⟩;rw[←hP,hg];refine ycD (L5 _) rfl fun k hk=>?_
   match k,hk with
   |0,_=>rfl
   |1,_=>rfl
  have h8:(q.grp !=0)=false:=h8;have hg:yal q.grp=[]:=by unfold yal;rw[show(q.grp==0)=true by simpa [bne]using h8];rfl
  refine⟨[100],_,(ycw h0).conv (args':=_) ⟨aK.of_eq (by rw[←hP,hg,List.append_nil];rfl),aK.refl _,oO⟩,?_⟩;exact aC.refl _
 have a1:(!within q.mea 0 2)=true:=a1;repeat refine aR ?_
 exact bad (n:=2) dC (by unfold yag;rw[a1];rfl)
theorem ybB:aF prog 22 [] (.s (.d (J4 yaA))):=by exact eP func22 rfl rfl call22 rfl rfl fun cx aA=>aC.le (ycC rfl rfl rfl)
theorem yaH:aF prog 27 [] (.s (.d (J4 yaa))):=by exact eP func27 rfl rfl call27 rfl rfl fun cx aA=>aC.le (yb0 rfl rfl rfl rfl rfl rfl)
theorem ybO(n:Int):aF prog 24 [vI n] (vB (yaf n)):=by
 refine eP func24 rfl rfl call24 rfl rfl fun cx aA=>?_
 repeat refine aR ?_
 exact aC.lit rfl
theorem ybk(l:List bJ)(x:bJ)(hl:l.length≤1000000):aF prog 34 [.s (.d (J4 l)),vT x] (vI (yaq x 0 l)):=by
 refine eP func34 rfl rfl call34 rfl rfl fun cx aA=>?_
 refine AW.cG (fun i:Nat=>⟨[(0,.s (.d (J4 l))),(1,vT x),(5,vI i)],[]⟩)
  (fun i=>i≤l.length∧yaq x 0 l=yaq x i (l.drop i)) (fun i=>l.length - i) 0 ⟨Nat.zero_le _,rfl⟩ ?_ ?_
 ·exact aM.bD aA [] rfl trivial ⟨qZ,qZ,qZ,oO⟩
 rintro i ⟨hi,he⟩;refine eX aA (aI (fun h=>?_) (fun h=>?_))
 ·have h:(i:Int)<(l.length:Int):=bG h;have h4:i<l.length:=oM;have hd:l.drop i=l.getD i []::l.drop (i+1):=by rw[aX h4];exact List.drop_eq_getElem_cons h4
  have e:yaq x i (l.drop i)=bif (bs (l.getD i [])).toList==(bs x).toList then(i:Int)else yaq x (i+1) (l.drop (i+1)):=by rw[hd];rfl
  refine oi ⟨oM,h⟩ (aI (fun h2=>?_) (fun h2=>?_))
  ·have h2:((bs (l.getD i [])).toList==(bs x).toList)=true:=h2;rw[he,e,h2];exact aC.refl _
  have h2:((bs (l.getD i [])).toList==(bs x).toList)=false:=h2;refine⟨i+1,⟨oM,by rw[he,e,h2];rfl⟩,oM,?_⟩;exact aM.bD aA [] rfl trivial ⟨qZ,qZ,⟨rfl,aU.int (aG oM oM)⟩,oO⟩
 have h:¬(i:Int)<(l.length:Int):=bF h;have h4:i=l.length:=oM;subst h4;rw[he,List.drop_length];exact aC.refl _
theorem ybJ(x:bJ):∀(l:List bJ) (i:Nat),decide (yaq x i l≥0)=l.contains x
 |[],i=>by rfl
 |y::l,i=>by
  rw[yaq,List.contains_cons,←ybJ x l (i+1),yaK,Bool.beq_comm]
  cases x==y with
  |true=>exact decide_eq_true (Int.natCast_nonneg i)
  |false=>rfl
theorem ybW(x:bJ):∀(l r:List bJ) (i:Nat),(decide (yaq x i (l++r)≥0)&&decide (yaq x i (l++r)<((i+l.length:Nat):Int)))=l.contains x
 |[],r,i=>by
  have h:∀(r:List bJ) (j:Nat),i≤j→(decide (yaq x j r≥0)&&decide (yaq x j r<(i:Int)))=false:=by
   intro r;induction r with
   |nil=>intro j _;rfl
   |cons y r ih=>
    intro j hj;rw[yaq]
    cases(bs y).toList==(bs x).toList with
    |true=>exact Bool.and_eq_false_iff.2 (.inr (decide_eq_false (by show ¬((j:Int)<i);omega)))
    |false=>exact ih (j+1) oM
  exact h r i (Nat.le_refl i)
 |y::l,r,i=>by
  have ih:=ybW x l r (i+1);rw[List.cons_append,yaq,List.contains_cons,yaK,Bool.beq_comm,List.length_cons,show i+(l.length+1)=i+1+l.length by omega]
  cases x==y with
  |true=>show(decide ((i:Int)≥0)&&decide ((i:Int)<((i+1+l.length:Nat):Int)))=true;rw[decide_eq_true oM,decide_eq_true oM];rfl
  |false=>exact ih
theorem ycq(c:Cnd):yaC c=(decide (yaq (tx c.op) 0 yav≥0)&&(decide (yaq (tx c.op) 0 yav<2)|| !yaf c.field)):=by
 have h1:=ybJ (tx c.op) yav 0;have h2:=ybW (tx c.op) (yav.take 2) (yav.drop 2) 0;have h3:yav.take 2++yav.drop 2=yav:=rfl;rw[h3]at h2;unfold yaC;rw[←h1]
 cases hn:yaf c.field with
 |true=>rw[Bool.not_true,Bool.or_false];exact h2.symm
 |false=>rw[Bool.not_false,Bool.or_true,Bool.and_true];rfl
theorem ycg(c:Cnd):aF prog 23 [vI c.field,vS c.op] (vB (yaC c)):=by
 have hx:dS c.op=dT (tx c.op):=aDC _;refine eP func23 rfl rfl call23 rfl rfl fun cx aA=>aB ((ybk yav (tx c.op) dC).conv (args':=_) ⟨yb0 rfl rfl rfl rfl rfl rfl,aK.of_eq hx,oO⟩) ?_
 repeat refine aR ?_
 refine bR (ybO c.field) ?_;repeat refine aR ?_
 exact aC.lit (ycq c).symm
theorem ycr{q:Qry}{i:Nat}(hm:0≤q.mea∧q.mea≤2)(hi:i≤q.conds.length)(h10:q.conds.length≤10)(h:∀c∈q.conds.take i,yab c=0):(iO (yad q i)).length≤615:=by
 have h1:∀w∈yad q i,w.length≤14:=by
  intro w hw;unfold yad at hw
  cases hw with
  |head=>rcases(by omega:q.mea=0∨q.mea=1∨q.mea=2)with e|e|e <;> rw[e] <;> decide
  |tail _ hw=>exact(yb (v:=ya) ⟨dC,dC⟩ h w hw).1
 have h2:=tP h1;rw[ya0 q hi]at h2;omega
theorem yaW{a:List bJ}(ha:a≠[])(v f o x:bJ):bs (iO a)++bs (32::v++ [32])++bs f++bs [32]++bs o++bs [32]++bs x=bs (iO (a++ [v,f,o,x])):=by rw[tQ ha];simp only [fH];congr 1;simp[sR]
theorem ycx{a:List bJ}(ha:a≠[])(x:bJ):bs (iO a)++bs (32::wBy++ [32])++bs x=bs (iO (a++ [wBy,x])):=by rw[tQ ha];simp only [fH];congr 1;simp[sR]
theorem yaO{a v f x:bJ}{o:ByteArray}(ha:a.length≤615)(hv:v.length≤7)(hf:f.length≤14)(ho:o.size≤14)(hx:x.length≤14):
  (((bs a).size+(bs v).size≤9223372036854775807∧(bs a++bs v).size+(bs f).size≤9223372036854775807)∧((bs a++bs v++bs f).size+(bs [32]).size≤9223372036854775807∧(bs a++bs v++bs f++bs [32]).size+o.size≤9223372036854775807))∧(bs a++bs v++bs f++bs [32]++o).size+(bs [32]).size≤9223372036854775807∧(bs a++bs v++bs f++bs [32]++o++bs [32]).size+(bs x).size≤9223372036854775807:=by
 simp only [ByteArray.size_append,cF,List.length_cons,List.length_nil]
 omega
theorem ya6(q:Qry)(hq:q.fits):aF prog 7 [ybq q] (.t [.s (.d (dT (yak q))),.s (.d (dI (yag q)))]):=by
 have bad:∀{n:Int},n≠0→yag q=n→aC (.t [.s (.d (dT [])),.s (.d (dI n))]) (.t [.s (.d (dT (yak q))),.s (.d (dI (yag q)))]):=by intro n hn he;refine aC.of_eq ?_;unfold yak;rw[he,show(n==0)=false by simpa using hn];rfl
 refine eP func7 rfl rfl call7 rfl rfl fun cx aA=>aB (cI q.mea 0 2) ?_
 repeat refine aR ?_
 refine bR (cI q.grp 0 5) ?_;repeat refine aR ?_
 refine aI (fun a1=>?_) (fun a1=>?_)
 ·have a1:(!within q.mea 0 2|| !within q.grp 0 5)=true:=a1;exact bad (n:=2) dC (by unfold yag;rw[a1];rfl)
 have a1:(!within q.mea 0 2|| !within q.grp 0 5)=false:=a1;refine aI (fun a3=>?_) (fun a3=>?_)
 ·have a3:decide ((q.conds.length:Int)>10)=true:=a3;exact bad (n:=8) dC (by unfold yag;rw[a1,a3];rfl)
 have a3:decide ((q.conds.length:Int)>10)=false:=a3;have hE:yag q=yau q.conds:=by unfold yag;rw[a1,a3];rfl
 rw[Bool.or_eq_false_iff]at a1;have m1:=within_iff.1 (show within q.mea 0 2=true by simpa using a1.1);have m2:=within_iff.1 (show within q.grp 0 5=true by simpa using a1.2);have m3:q.conds.length≤10:=by have:=of_decide_eq_false a3;omega
 refine aB (ybB) (ob (show 0≤q.mea∧q.mea<3 from⟨m1.1,oM⟩) ?_);refine aD ?_;refine AW.cG (fun i:Nat=>⟨[(1,.s (.ptr 1 0)),(4,vT (iO (yad q i))),(5,vI i)],[(1,some (.cells (yaE q)))]⟩)
  (fun i=>(i≤q.conds.length∧yau q.conds=yau (q.conds.drop i))∧∀c∈q.conds.take i,yab c=0) (fun i=>q.conds.length - i) 0 ⟨⟨Nat.zero_le _,rfl⟩,fun c hc=>by cases hc⟩ ?_ ?_
 ·exact aM.bD aA [] rfl ⟨bQ,oO⟩ ⟨qZ,⟨rfl,aU.of_eq (congrArg vT (nB _).symm)⟩,qZ,oO⟩
 rintro i ⟨⟨hi,he⟩,hz⟩;have hal:=ycr m1 hi m3 hz;have fJ:yad q i≠[]:=by unfold yad;simp
 refine eX aA (aI (fun h=>?_) (fun h=>?_))
 ·have h:(i:Int)<(q.conds.length:Int):=bG h;have bC:i<q.conds.length:=oM;have hx:=ybF q.conds bC;have hm:q.conds.getD i default∈q.conds:=by rw[List.getD_eq_getElem?_getD,List.getElem?_eq_getElem bC];exact List.getElem_mem _
  have hs:=ybg q bC;have hc:=hq.conds _ hm;have NI:∀{n:Int},n≠0→yab (q.conds.getD i default)=n→yag q=n:=by intro n hn e;rw[hE,he,hx,e,show(n==0)=false by simpa using hn];rfl
  refine oi ⟨oM,oM⟩ (aB (cI (q.conds.getD i default).field 1 5) ?_);refine aI (fun g1=>?_) (fun g1=>?_)
  ·have g1:(!within (q.conds.getD i default).field 1 5)=true:=g1;exact bad (n:=2) dC (NI dC (by unfold yab;rw[g1];rfl))
  have g1:(!within (q.conds.getD i default).field 1 5)=false:=g1;refine aB (ycg (q.conds.getD i default)) (aI (fun g2=>?_) (fun g2=>?_))
  ·have g2:(!yaC (q.conds.getD i default))=true:=g2;exact bad (n:=3) dC (NI dC (by unfold yab;rw[g1,g2];rfl))
  have g2:(!yaC (q.conds.getD i default))=false:=g2;have f1:=within_iff.1 (show within (q.conds.getD i default).field 1 5=true by simpa using g1);have tz:yab (q.conds.getD i default)=0→∀c∈q.conds.take (i+1),yab c=0:=by
   intro e c hc;rw[List.take_add_one,List.getElem?_eq_getElem bC]at hc;rcases List.mem_append.1 hc with hc|hc
   ·exact hz c hc
   have:c=q.conds.getD i default:=by rw[List.getD_eq_getElem?_getD,List.getElem?_eq_getElem bC];simpa using hc
   rw[this];exact e
  have QO:yab (q.conds.getD i default)=0→yau q.conds=yau (q.conds.drop (i+1)):=by intro e;rw[he,hx,e];rfl
  have n0:((i:Int)==0)=(i==0):=by rw[Bool.eq_iff_iff,beq_iff_eq,beq_iff_eq];omega
  refine aB (ybO (q.conds.getD i default).field) (aI (fun g3=>?_) (fun g3=>?_))
  ·have g3:(!yaf (q.conds.getD i default).field)=true:=g3;have g3':yaf (q.conds.getD i default).field=false:=by simpa using g3
   refine aB (cI (q.conds.getD i default).num 0 1000000) (aI (fun g4=>?_) (fun g4=>?_))
   ·have g4:(!within (q.conds.getD i default).num 0 1000000)=true:=g4;exact bad (n:=2) dC (NI dC (by unfold yab;rw[g1,g2,g3',g4];rfl))
   have g4:(!within (q.conds.getD i default).num 0 1000000)=false:=g4;have e0:yab (q.conds.getD i default)=0:=by unfold yab;rw[g1,g2,g3',g4];rfl
   have f4:=within_iff.1 (show within (q.conds.getD i default).num 0 1000000=true by simpa using g4);have hw:=ybo e0;have l1:=(hw (yaa.getD (q.conds.getD i default).field.toNat []) (by simp[yax])).1;have l2:=(hw (tx (q.conds.getD i default).op) (by simp[yax])).1;rw[wV]at l2;have l3:=lG (n:=(q.conds.getD i default).num) oM;refine aB (CY (q.conds.getD i default).num oM oM) (aI (fun g6=>?_) (fun g6=>?_))
   ·have h6:((i:Int)==0)=true:=g6;rw[n0]at h6;have z:=yaO (v:=32::ya++ [32]) (x:=Lib.itoa (q.conds.getD i default).num) hal dC l1 l2 l3;refine ob z.1.1.1 (aB (yaH) ?_);refine ob (show 0≤(q.conds.getD i default).field∧(q.conds.getD i default).field<6 from⟨oM,oM⟩) (ob z.1.1.2 ?_);refine ob z.1.2.1 (ob z.1.2.2 ?_);refine ob z.2.1 (ob z.2.2 ?_);refine aD ⟨i+1,⟨⟨oM,QO e0⟩,tz e0⟩,oM,?_⟩;refine aM.bD aA [] rfl ⟨bQ,oO⟩ ⟨qZ,⟨rfl,aU.of_eq (congrArg vS ?_)⟩,⟨rfl,aU.int (aG oM oM)⟩,oO⟩;have en:=yaW fJ ya (yaa.getD (q.conds.getD i default).field.toNat []) (tx (q.conds.getD i default).op) (Lib.itoa (q.conds.getD i default).num);have es:yad q (i+1)=yad q i++ [ya,yaa.getD (q.conds.getD i default).field.toNat [],tx (q.conds.getD i default).op,Lib.itoa (q.conds.getD i default).num]:=by rw[hs,h6];unfold yax;rw[g3'];rfl
    rw[es,←en,CJ];rfl
   have h6:((i:Int)==0)=false:=g6;rw[n0]at h6;have z:=yaO (v:=32::yah++ [32]) (x:=Lib.itoa (q.conds.getD i default).num) hal dC l1 l2 l3;refine ob z.1.1.1 (aB (yaH) ?_);refine ob (show 0≤(q.conds.getD i default).field∧(q.conds.getD i default).field<6 from⟨oM,oM⟩) (ob z.1.1.2 ?_);refine ob z.1.2.1 (ob z.1.2.2 ?_);refine ob z.2.1 (ob z.2.2 ?_);refine aD ⟨i+1,⟨⟨oM,QO e0⟩,tz e0⟩,oM,?_⟩;refine aM.bD aA [] rfl ⟨bQ,oO⟩ ⟨qZ,⟨rfl,aU.of_eq (congrArg vS ?_)⟩,⟨rfl,aU.int (aG oM oM)⟩,oO⟩;have en:=yaW fJ yah (yaa.getD (q.conds.getD i default).field.toNat []) (tx (q.conds.getD i default).op) (Lib.itoa (q.conds.getD i default).num);have es:yad q (i+1)=yad q i++ [yah,yaa.getD (q.conds.getD i default).field.toNat [],tx (q.conds.getD i default).op,Lib.itoa (q.conds.getD i default).num]:=by rw[hs,h6];unfold yax;rw[g3'];rfl
   rw[es,←en,CJ];rfl
  have g3:(!yaf (q.conds.getD i default).field)=false:=g3;have g3':yaf (q.conds.getD i default).field=true:=by simpa using g3
  refine aB (sW (q.conds.getD i default).name hc.name) (aI (fun g4=>?_) (fun g4=>?_))
  ·have g4:(!isName (q.conds.getD i default).name)=true:=g4;exact bad (n:=4) dC (NI dC (by unfold yab;rw[g1,g2,g3',g4];rfl))
  have g4:(!isName (q.conds.getD i default).name)=false:=g4;have e0:yab (q.conds.getD i default)=0:=by unfold yab;rw[g1,g2,g3',g4];rfl
  have f4:=iW (show isName (q.conds.getD i default).name=true by simpa using g4);have hw:=ybo e0;have l1:=(hw (yaa.getD (q.conds.getD i default).field.toNat []) (by simp[yax])).1;have l2:=(hw (tx (q.conds.getD i default).op) (by simp[yax])).1;rw[wV]at l2;have l3:(tx (q.conds.getD i default).name).length≤14:=by rw[wV];omega
  refine aI (fun g6=>?_) (fun g6=>?_)
  ·have h6:((i:Int)==0)=true:=g6;rw[n0]at h6;have z:=yaO (v:=32::ya++ [32]) (x:=tx (q.conds.getD i default).name) hal dC l1 l2 l3;refine ob z.1.1.1 (aB (yaH) ?_);refine ob (show 0≤(q.conds.getD i default).field∧(q.conds.getD i default).field<6 from⟨oM,oM⟩) (ob z.1.1.2 ?_);refine ob z.1.2.1 (ob z.1.2.2 ?_);refine ob z.2.1 ?_;refine ob (by have:=z.2.2;rwa [CJ]at this) ?_;refine aD ⟨i+1,⟨⟨oM,QO e0⟩,tz e0⟩,oM,?_⟩;refine aM.bD aA [] rfl ⟨bQ,oO⟩ ⟨qZ,⟨rfl,aU.of_eq (congrArg vS ?_)⟩,⟨rfl,aU.int (aG oM oM)⟩,oO⟩;have en:=yaW fJ ya (yaa.getD (q.conds.getD i default).field.toNat []) (tx (q.conds.getD i default).op) (tx (q.conds.getD i default).name);have es:yad q (i+1)=yad q i++ [ya,yaa.getD (q.conds.getD i default).field.toNat [],tx (q.conds.getD i default).op,tx (q.conds.getD i default).name]:=by rw[hs,h6];unfold yax;rw[g3'];rfl
   rw[es,←en,CJ,CJ];rfl
  have h6:((i:Int)==0)=false:=g6;rw[n0]at h6;have z:=yaO (v:=32::yah++ [32]) (x:=tx (q.conds.getD i default).name) hal dC l1 l2 l3;refine ob z.1.1.1 (aB (yaH) ?_);refine ob (show 0≤(q.conds.getD i default).field∧(q.conds.getD i default).field<6 from⟨oM,oM⟩) (ob z.1.1.2 ?_);refine ob z.1.2.1 (ob z.1.2.2 ?_);refine ob z.2.1 ?_;refine ob (by have:=z.2.2;rwa [CJ]at this) ?_;refine aD ⟨i+1,⟨⟨oM,QO e0⟩,tz e0⟩,oM,?_⟩;refine aM.bD aA [] rfl ⟨bQ,oO⟩ ⟨qZ,⟨rfl,aU.of_eq (congrArg vS ?_)⟩,⟨rfl,aU.int (aG oM oM)⟩,oO⟩;have en:=yaW fJ yah (yaa.getD (q.conds.getD i default).field.toNat []) (tx (q.conds.getD i default).op) (tx (q.conds.getD i default).name);have es:yad q (i+1)=yad q i++ [yah,yaa.getD (q.conds.getD i default).field.toNat [],tx (q.conds.getD i default).op,tx (q.conds.getD i default).name]:=by rw[hs,h6];unfold yax;rw[g3'];rfl
  rw[es,←en,CJ,CJ];rfl
 have h:¬(i:Int)<(q.conds.length:Int):=bF h;have e:i=q.conds.length:=oM;have h0:yag q=0:=by rw[hE,he,e,List.drop_length];rfl
 have hP:yad q i++yal q.grp=yas q:=by unfold yad yas;rw[e,List.take_length,List.cons_append]
 have hT:yak q=iO (yas q):=by unfold yak;rw[h0];rfl
 rw[h0,hT,←hP];refine aI (fun h8=>?_) (fun h8=>?_)
 ·have h8:decide (q.grp>0)=true:=h8;have h9:=of_decide_eq_true h8;have hg:yal q.grp=[wBy,yaa.getD q.grp.toNat []]:=by unfold yal;rw[show(q.grp==0)=false by simp;omega];rfl
  have hfl:(yaa.getD q.grp.toNat []).length≤14:=(ybS (g:=q.grp) ⟨oM,oM⟩ (yaa.getD q.grp.toNat []) (by rw[hg];simp)).1;refine ob (show(bs (iO (yad q i))).size+(bs (32::wBy++ [32])).size≤9223372036854775807 by simp only [cF,wBy,List.length_append,List.length_cons,List.length_nil];omega) ?_;refine aB (yaH) (ob (show 0≤q.grp∧q.grp<6 from⟨oM,oM⟩) ?_);refine ob (show(bs (iO (yad q i))++bs (32::wBy++ [32])).size+(bs (yaa.getD q.grp.toNat [])).size≤9223372036854775807 by simp only [ByteArray.size_append,cF,wBy,List.length_append,List.length_cons,List.length_nil];omega) ?_;refine aD ?_;rw[hg];exact aC.of_eq (congrArg (fun b=>AV.t [.s (.d (dS b)),.s (.d (dI 0))]) (ycx fJ (yaa.getD q.grp.toNat [])))
 have h8:decide (q.grp>0)=false:=h8;have h9:=of_decide_eq_false h8;have hg:yal q.grp=[]:=by unfold yal;rw[show(q.grp==0)=true by simp;omega];rfl
 rw[hg,List.append_nil];exact aC.refl _
theorem sJ.ybb{w:bJ}{s:RS}(h:sJ s):sJ (yan w s):=by
 unfold yan
 cases yai w s with
 |true=>exact h.word
 |false=>exact h
theorem yb1(w:bJ){s:RS}(h:sJ s):bW prog 31 [vT w,.s (.ptr 1002 0)] [(1001,.cells (DE s)),(1002,.cells [.ptr 1001 0])] (vB (yai w s)) [(1001,.cells (DE (yan w s))),(1002,.cells [.ptr 1001 0])]:=by
 have hw:=wrd h;obtain⟨l,b⟩:=s
 cases l with
 |nil=>
  refine gH (rc:=[]) (N:=22) func31 rfl rfl call31 aJ mix rfl rfl rfl rfl (fun cx aA=>?_);repeat refine aR ?_
  refine og (fun h=>Bool.noConfusion (show false=true from h)) ?_;repeat refine aR ?_
  exact aI (fun _=>⟨aC.refl _,rfl,rfl,oO⟩) (fun g=>Bool.noConfusion (show true=false from g))
 |cons a l=>
  cases g:a==w with
  |true=>
   have e:a=w:=by simpa using g
   have hn:yai w (a::l,b)=true:=g;have hs:yan w (a::l,b)=(dL (a::l,b)).2:=by unfold yan;rw[hn,cond_true]
   rw[hn,hs];refine gH (rc:=[30]) (N:=22) func31 rfl rfl call31 aJ mix rfl rfl rfl rfl (fun cx aA=>?_);repeat refine aR ?_
   refine og (fun h=>show(0:Int)≤0∧(0:Int)<((a::l).length:Int) by simp only [List.length_cons];omega) ?_;repeat refine aR ?_
   refine aI (fun k=>?_) (fun _=>?_)
   ·have k:((((a::l).length:Int)==0)||((bs a).toList !=(bs w).toList))=true:=k;rw[e,bne_self_eq_false,Bool.or_false]at k;simp at k;omega
   exact⟨[(1,1001)],_,_,_,_,hw,rfl,⟨rfl,oO⟩,rfl,⟨aC.refl _,rfl,rfl,oO⟩⟩
  |false=>
   have hn:yai w (a::l,b)=false:=g;have hs:yan w (a::l,b)=(a::l,b):=by unfold yan;rw[hn];rfl
   rw[hn,hs];refine gH (rc:=[]) (N:=22) func31 rfl rfl call31 aJ mix rfl rfl rfl rfl (fun cx aA=>?_);repeat refine aR ?_
   refine og (fun h=>show(0:Int)≤0∧(0:Int)<((a::l).length:Int) by simp only [List.length_cons];omega) ?_;repeat refine aR ?_
   refine aI (fun _=>⟨aC.refl _,rfl,rfl,oO⟩) (fun k=>?_);have k:((((a::l).length:Int)==0)||((bs a).toList !=(bs w).toList))=false:=k;rw[Bool.or_eq_false_iff]at k;have k2:=k.2;unfold bne at k2;rw[yaK,g]at k2
   cases k2
theorem sJ.cnd{s:RS}(h:sJ s):sJ (yaj s).2:=by
 unfold yaj
 cases hn:yaf (yaz yaa (dL s).1)with
 |true=>simp only [hn,cond_true];exact h.word.word.word
 |false=>simp only [hn,cond_false];exact h.word.word.num
theorem ycF{s:RS}(h:sJ s):bW prog 32 [.s (.ptr 1001 0)] [(1001,.cells (DE s))] (.g (ycm (yaj s).1)) [(1001,.cells (DE (yaj s).2))]:=by
 cases hn:yaf (yaz yaa (dL s).1)with
 |true=>
  have e:yaj s=(⟨yaz yaa (dL s).1,bs (dL (dL s).2).1,0,bs (dL (dL (dL s).2).2).1⟩,(dL (dL (dL s).2).2).2):=by unfold yaj;simp only [hn,cond_true]
  rw[e];refine gH (rc:=[30]) (N:=21) func32 rfl rfl call32 aJ mix rfl rfl rfl rfl (fun cx aA=>?_);refine aB (yaI) ⟨[(1,1001)],_,_,_,_,wrd h,rfl,⟨rfl,oO⟩,rfl,?_⟩;refine aB (aKH yaa (dL s).1 dC) ⟨[(1,1001)],_,_,_,_,wrd h.word,rfl,⟨rfl,oO⟩,rfl,?_⟩;refine aB (yaD (yaz yaa (dL s).1)) (aI (fun g=>?_) (fun g=>(Bool.noConfusion (hn.symm.trans g))));exact⟨[(1,1001)],_,_,_,_,wrd h.word.word,rfl,⟨rfl,oO⟩,rfl,⟨aC.refl _,rfl,oO⟩⟩
 |false=>
  have e:yaj s=(⟨yaz yaa (dL s).1,bs (dL (dL s).2).1,(rdNum (dL (dL s).2).2).1,bs []⟩,(rdNum (dL (dL s).2).2).2):=by unfold yaj;simp only [hn,cond_false]
  rw[e];refine gH (rc:=[30,55]) (N:=21) func32 rfl rfl call32 aJ mix rfl rfl rfl rfl (fun cx aA=>?_);refine aB (yaI) ⟨[(1,1001)],_,_,_,_,wrd h,rfl,⟨rfl,oO⟩,rfl,?_⟩;refine aB (aKH yaa (dL s).1 dC) ⟨[(1,1001)],_,_,_,_,wrd h.word,rfl,⟨rfl,oO⟩,rfl,?_⟩;refine aB (yaD (yaz yaa (dL s).1)) (aI (fun g=>(Bool.noConfusion (hn.symm.trans g))) (fun g=>?_));exact⟨[(1,1001)],_,_,_,_,num h.word.word,rfl,⟨rfl,oO⟩,rfl,⟨aC.refl _,rfl,oO⟩⟩
theorem yaM(s:RS):(dL s).2.1.length=s.1.length - 1:=by unfold dL;simp
theorem ycj(s:RS):(rdNum s).2.1.length=s.1.length - 1:=by unfold rdNum;simp
theorem ych(s:RS):(yaj s).2.1.length≤s.1.length:=by
 have h1:=yaM s;have h2:=yaM (dL s).2;have h3:=yaM (dL (dL s).2).2;have h4:=ycj (dL (dL s).2).2;unfold yaj
 cases hn:yaf (yaz yaa (dL s).1)with
 |true=>simp only [hn,cond_true];omega
 |false=>simp only [hn,cond_false];omega
theorem yby(w:bJ)(s:RS):(yan w s).1.length≤s.1.length∧(yai w s=true→(yan w s).1.length<s.1.length):=by
 unfold yan
 cases h:yai w s with
 |true=>
  have h1:=yaM s;have h2:0<s.1.length:=by
   unfold yai at h;rw[Bool.and_eq_true]at h
   cases hq:s.1 with
   |nil=>rw[hq]at h;exact absurd h.1 dC
   |cons a l=>simp
  exact⟨by simp only [cond_true];omega,fun _=>by simp only [cond_true];omega⟩
 |false=>exact⟨Nat.le_refl _,fun k=>by cases k⟩
theorem yci(n:Nat)(s:RS):yam n false s=([],s):=by cases n <;> rfl
theorem yb3(n:Nat)(m:Bool){s:RS}(h:s.2=true):yam n m s=([],s):=by
 cases n with
 |zero=>rfl
 |succ n=>rw[yam,h,Bool.not_true,Bool.and_false];rfl
theorem sJ.ycB:∀(n:Nat) (m:Bool) {s:RS},sJ s→sJ (yam n m s).2
 |0,_,_,h=>h
 |n+1,m,s,h=>by
  rw[yam]
  cases(m&& !s.2)with
  |true=>exact sJ.ycB n _ h.cnd.ybb
  |false=>exact h
theorem ycl(w:bJ): -9223372036854775808≤atN w∧atN w≤9223372036854775807:=by
 unfold atN
 cases h:Lib.atoiAll w with
 |ok v=>exact Lib.atoiAll_bounds h
 |range=>exact Lib.atoiSat_bounds w
 | _ =>exact⟨show(-9223372036854775808:Int)≤0 by decide,show(0:Int)≤9223372036854775807 by decide⟩
theorem yb2{s:RS}(h:sJ s):(yaj s).1.fits:=by
 have b1:=h.word.head;have b2:=h.word.word.head;have n1:=ycl ((dL (dL s).2).2.1.headD []);have e0:(bs []).size≤9223372036854775807:=by rw[cF];exact Nat.zero_le _
 have e1:(bs (dL (dL s).2).1).size≤9223372036854775807:=by rw[cF];exact Nat.le_trans b1 dC
 unfold yaj
 cases hn:yaf (yaz yaa (dL s).1)with
 |true=>simp only [hn,cond_true];exact⟨show(-9223372036854775808:Int)≤0 by decide,show(0:Int)≤9223372036854775807 by decide,e1,by rw[cF];exact Nat.le_trans b2 dC⟩
 |false=>simp only [hn,cond_false];exact⟨n1.1,n1.2,e1,e0⟩
theorem yaS:∀(n:Nat) (m:Bool) {s:RS},sJ s→(yam n m s).1.length≤n∧∀c∈(yam n m s).1,c.fits
 |0,_,_,_=>⟨Nat.le_refl _,fun c hc=>by cases hc⟩
 |n+1,m,s,h=>by
  rw[yam]
  cases(m&& !s.2)with
  |true=>
   obtain⟨h1,h2⟩:=yaS n (yai yah (yaj s).2) (h.cnd.ybb (w:=yah));refine⟨by simp only [cond_true,List.length_cons];omega,fun c hc=>?_⟩;simp only [cond_true,List.mem_cons]at hc;rcases hc with rfl|hc
   ·exact yb2 h
   exact h2 c hc
  |false=>exact⟨Nat.zero_le _,fun c hc=>by cases hc⟩
theorem ybt{l:List Cnd}(h:l=[]):aU (.s (.d eO)) (.s (.d (yaX l))):=by subst h;exact aU.d aK.nil
theorem ybd(s:bJ)(hs:s.length<4294967281):aF prog 8 [vT s] (.t [.g (yaE (rqQ s)),.s (.d (dI (rqE s)))]):=by
 have gF:=XK (s:=s) hs false;have hsp:=Split s [32] hs dC;have hR:ya5 (sG s [32],false)=rqT s:=rfl;generalize sG s [32]=ws at gF hR hsp;have hl0:ws.length≤4294967296:=gF.1;have hok1:sJ (dL (ws,false)).2:=sJ.word (s:=(ws,false)) gF;have hl1:(dL (ws,false)).2.1.length≤4294967296:=hok1.1;have hok2:=sJ.ycB ((dL (ws,false)).2.1.length+1) (yai ya (dL (ws,false)).2) (sJ.ybb (w:=ya) hok1);have oW:=yaS ((dL (ws,false)).2.1.length+1) (yai ya (dL (ws,false)).2) (sJ.ybb (w:=ya) hok1);refine eW func8 rfl rfl call8 rfl rfl (fun cx aA=>?_);refine sX aA (sX aA ?_);refine aB (hsp) (AW.seq (ex.sound (rc:=[1500030]) aJ mix aA _ ?_));refine aB (ybI) ⟨[(1,13)],_,_,_,_,wrd gF,rfl,⟨rfl,oO⟩,rfl,?_⟩;refine aB (aKH yaA (dL (ws,false)).1 dC) (aD ?_);refine sX aA ?_;have hmea:yaz yaA (dL (ws,false)).1=Lib.idxOfS (yaA.map bs) (bs (dL (ws,false)).1):=rfl;generalize hM:Lib.idxOfS (yaA.map bs) (bs (dL (ws,false)).1)=mea at hmea;refine AW.gR (σ':=⟨[(0,vT s),(2,.s (.ptr 2 0)),(4,.s (.ptr 4 0)),(5,.s (.ptr 5 0)),(6,.s (.dZ 31 [.ptr 4 0]))],[(2,some (.cells (iB ty24.zero))),(13,some (.cells (DE (dL (ws,false)).2))),(4,some (.cells [.ptr 13 0])),(5,some (.cells [.d (dI mea),.d eO,.d (dI 0)]))]⟩) (aM.bD aA [] rfl ⟨bQ,bQ,bQ,⟨rfl,aY.cells ⟨aU.of_eq (by rw[←hM];rfl),aU.rfl,aU.rfl,oO⟩⟩,oO⟩ ⟨qZ,qZ,qZ,qZ,qZ,oO⟩) ?_;generalize LC:(dL (ws,false)).2=s1 at hok1 hl1 hok2 oW;have SH:(dL (ws,false)).2=s1:=LC;generalize hT:yam (s1.1.length+1) (yai ya s1) (yan ya s1)=T at hok2 oW;refine AW.pG (fun q:List Cnd×RS=>⟨[(0,vT s),(2,.s (.ptr 2 0)),(4,.s (.ptr 4 0)),(5,.s (.ptr 5 0)),(6,.s (.dZ 31 [.ptr 4 0]))],[(2,some (.cells (iB ty24.zero))),(13,some (.cells (DE q.2))),(4,some (.cells [.ptr 13 0])),(5,some (.cells [.d (dI mea),.d (yaX q.1),.d (dI 0)]))]⟩) (fun q=>q=T) ?_ ?_
 ·refine AW.seq (ex.sound (rc:=[31]) aJ mix aA _ ?_);refine⟨[(1001,13),(1002,4)],_,_,_,_,yb1 ya hok1,rfl,⟨rfl,rfl,oO⟩,rfl,?_⟩;refine AW.block ?_;refine AW.cG (fun (z:Nat×Bool×List Cnd×RS)=>⟨[(0,vT s),(2,.s (.ptr 2 0)),(4,.s (.ptr 4 0)),(5,.s (.ptr 5 0)),(6,.s (.dZ 31 [.ptr 4 0])),(7,vB z.2.1)],[(2,some (.cells (iB ty24.zero))),(13,some (.cells (DE z.2.2.2))),(4,some (.cells [.ptr 13 0])),(5,some (.cells [.d (dI mea),.mo z.2.2.1.isEmpty 100,.d (dI 0)])),(100,some (.b8 37 z.2.2.1.length 4 (ya4 z.2.2.1)))]⟩)
   (fun z=>(sJ z.2.2.2∧(z.2.1=true→z.2.2.2.1.length<z.1))∧z.2.2.1.length+z.1≤4294967297∧(z.2.2.1++(yam z.1 z.2.1 z.2.2.2).1,(yam z.1 z.2.1 z.2.2.2).2)=T) (fun z=>z.1) (s1.1.length+1,yai ya s1,[],yan ya s1) ?_ ?_ ?_
  ·refine⟨⟨hok1.ybb,fun h=>?_⟩,?_,?_⟩
   ·have:=(yby ya s1).2 h;show(yan ya s1).1.length<s1.1.length+1;omega
   ·show 0+(s1.1.length+1)≤4294967297;omega
   rw[←hT];rfl
  ·exact aM.of [(100,1000)] (by rw[aA];rfl) rfl ⟨bQ,bQ,bQ,⟨rfl,aY.cells ⟨aU.rfl,aU.nil rfl,aU.rfl,oO⟩⟩,⟨rfl,rfl⟩,oO⟩ ⟨qZ,qZ,qZ,qZ,qZ,qZ,oO⟩
  rintro⟨n,m,acc,⟨sw,sb⟩⟩ ⟨⟨ho,hm⟩,hn,he⟩;have hm:m=true→sw.length<n:=hm;have hn:acc.length+n≤4294967297:=hn;have ho:sJ (sw,sb):=ho;have he:(acc++(yam n m (sw,sb)).1,(yam n m (sw,sb)).2)=T:=he;have leave:yam n m (sw,sb)=([],(sw,sb))→∀{υ:St},aM cx f8.ntmps υ ⟨[(0,vT s),(2,.s (.ptr 2 0)),(4,.s (.ptr 4 0)),(5,.s (.ptr 5 0)),(6,.s (.dZ 31 [.ptr 4 0])),(7,vB m)],[(2,some (.cells (iB ty24.zero))),(13,some (.cells (DE (sw,sb)))),(4,some (.cells [.ptr 13 0])),(5,some (.cells [.d (dI mea),.mo acc.isEmpty 100,.d (dI 0)])),(100,some (.b8 37 acc.length 4 (ya4 acc)))]⟩→∃q,q=T∧pI cx f8.ntmps υ ⟨[(0,vT s),(2,.s (.ptr 2 0)),(4,.s (.ptr 4 0)),(5,.s (.ptr 5 0)),(6,.s (.dZ 31 [.ptr 4 0]))],[(2,some (.cells (iB ty24.zero))),(13,some (.cells (DE q.2))),(4,some (.cells [.ptr 13 0])),(5,some (.cells [.d (dI mea),.d (yaX q.1),.d (dI 0)]))]⟩:=by
   intro e0 υ hu;rw[e0,List.append_nil]at he;refine⟨T,rfl,pI.tr (pI.aFD hu) ?_⟩;rw[←he]
   cases hz:acc.isEmpty with
   |true=>exact pI.aFD (aM.bD aA [] rfl ⟨bQ,bQ,bQ,⟨rfl,aY.cells ⟨aU.rfl,fun M β v r=>ybt (List.isEmpty_iff.1 hz) M β v (aU.aGT rfl M β v r),aU.rfl,oO⟩⟩,oO⟩ ⟨qZ,qZ,qZ,qZ,qZ,oO⟩)
   |false=>exact pI.tr (pI.aFD (aM.aLE (e:=37) (n:=acc.length) (s:=4) (f:=ya4 acc) (z:=false) (cs:=[.d (dI mea),.mo false 100,.d (dI 0)]) 5 1 100 rfl rfl rfl rfl)) (pI.of aA [] [100] rfl rfl rfl ⟨⟨rfl,hI.rfl⟩,⟨rfl,hI.rfl⟩,⟨rfl,hI.rfl⟩,⟨rfl,hI.cells ⟨b7.rfl,fun M β v hf r=>b7.own sM rfl M β v hf (r.2 rfl),b7.rfl,oO⟩⟩,oO⟩ ⟨⟨rfl,b7.rfl⟩,⟨rfl,b7.rfl⟩,⟨rfl,b7.rfl⟩,⟨rfl,b7.rfl⟩,⟨rfl,b7.rfl⟩,oO⟩)
  refine AW.seq (sX aA ?_)
  cases sb with
  |true=>
   repeat refine aR ?_
   refine AW.cond (aI (fun h=>?_) (fun h=>AW.exit ?_))
   ·have h:(m&&false)=true:=h;rw[Bool.and_false]at h
    cases h
   exact Or.inl ⟨rfl,leave (yb3 n m rfl) (aM.bD aA [] rfl ⟨bQ,bQ,bQ,bQ,bQ,oO⟩ ⟨qZ,qZ,qZ,qZ,qZ,qZ,oO⟩)⟩
  |false=>
   repeat refine aR ?_
   refine AW.cond (aI (fun h=>AW.skip ?_) (fun h=>AW.exit ?_))
   ·have h:(m&&true)=true:=h;rw[Bool.and_true]at h;subst h;obtain⟨k,rfl⟩:∃k,n=k+1:=⟨n - 1,by have:=hm rfl;omega⟩;rw[yam]at he;have he:(acc++((yaj (sw,false)).1::(yam k (yai yah (yaj (sw,false)).2) (yan yah (yaj (sw,false)).2)).1),(yam k (yai yah (yaj (sw,false)).2) (yan yah (yaj (sw,false)).2)).2)=T:=he;refine AW.seq (AW.block (ex.sound (rc:=[1500032]) aJ mix aA _ ?_));refine⟨[(1001,13)],_,_,_,_,ycF ho,rfl,⟨rfl,oO⟩,rfl,?_⟩;refine ob dC ?_;refine ob (by rw[dK];show(acc.length+1)*48≤_;omega) ?_;refine ob (nJ (lt4 rfl rfl rfl rfl)) (aD ?_);refine ex.sound (rc:=[31]) aJ mix aA _ ⟨[(1001,13),(1002,4)],_,_,_,_,yb1 yah ho.cnd,rfl,⟨rfl,rfl,oO⟩,rfl,?_⟩;have hc:=ych (sw,false);have hnx:=yby yah (yaj (sw,false)).2;refine⟨(k,yai yah (yaj (sw,false)).2,acc++ [(yaj (sw,false)).1],yan yah (yaj (sw,false)).2),⟨⟨ho.cnd.ybb,fun h=>?_⟩,?_,?_⟩,by show k<k+1;omega,?_⟩
    ·have h1:=hm rfl;have h2:=hnx.2 h;have h3:(yaj (sw,false)).2.1.length≤sw.length:=hc;exact Nat.lt_of_lt_of_le h2 (Nat.le_trans h3 (Nat.le_of_lt_succ h1))
    ·show(acc++ [(yaj (sw,false)).1]).length+k≤4294967297;rw[List.length_append,List.length_singleton];omega
    ·show(acc++ [(yaj (sw,false)).1]++_,_)=T;rw[List.append_assoc,List.singleton_append];exact he
    refine aM.of [(100,37)] (by rw[aA];rfl) rfl ⟨bQ,bQ,bQ,⟨rfl,aY.cells ⟨aU.rfl,aU.mo ?_,aU.rfl,oO⟩⟩,⟨rfl,?_⟩,oO⟩ ⟨qZ,qZ,qZ,qZ,qZ,qZ,oO⟩
    ·exact cA _ _
    exact aY.snoc (el:=ybE) (x:=(yaj (sw,false)).1) (lt4 rfl rfl rfl rfl)
   have h:(m&&true)=false:=h;rw[Bool.and_true]at h;subst h;exact Or.inl ⟨rfl,leave (yci n _) (aM.bD aA [] rfl ⟨bQ,bQ,bQ,bQ,bQ,oO⟩ ⟨qZ,qZ,qZ,qZ,qZ,qZ,oO⟩)⟩
 rintro⟨cs,st⟩ hq;rw[←hq]at hT hok2 oW;have hq2:rqT s=bif yai wBy st then(⟨mea,cs,yaz yaa (dL (dL st).2).1⟩,(dL (dL st).2).2)else(⟨mea,cs,0⟩,st):=by rw[←hR];unfold ya5;simp only [SH,hT,hmea]
 have hf:(rqT s).1.fits:=by
  rw[hq2]
  cases yai wBy st <;> exact⟨by show cs.length≤_;have h1:cs.length≤s1.1.length+1:=oW.1;omega,oW.2⟩
 have hP:=yaV (rqT s).1 hf;refine AW.pG (fun q:Qry×RS=>⟨[(0,vT s),(2,.s (.ptr 2 0)),(4,.s (.ptr 4 0)),(5,.s (.ptr 5 0))],[(2,some (.cells (iB ty24.zero))),(13,some (.cells (DE q.2))),(4,some (.cells [.ptr 13 0])),(5,some (.cells (yaE q.1)))]⟩) (fun q=>q=rqT s) ?_ ?_
 ·refine AW.seq (ex.sound (rc:=[31]) aJ mix aA _ ?_);refine⟨[(1001,13),(1002,4)],_,_,_,_,yb1 wBy hok2,rfl,⟨rfl,rfl,oO⟩,rfl,?_⟩;refine ex.sound (rc:=[1500030]) aJ mix aA _ (aI (fun h=>?_) (fun h=>?_))
  ·have h:yai wBy st=true:=h;rw[h]at hq2;refine aB (yaI) ?_;have hn:yan wBy st=(dL st).2:=by unfold yan;rw[h];rfl
   rw[hn];refine⟨[(1,13)],_,_,_,_,wrd (sJ.word hok2),rfl,⟨rfl,oO⟩,rfl,?_⟩;refine aB (aKH yaa (dL (dL st).2).1 dC) (aD ?_);exact Or.inl ⟨rfl,_,hq2.symm,pI.aFD (aM.bD aA [] rfl ⟨bQ,bQ,bQ,bQ,oO⟩ ⟨qZ,qZ,qZ,qZ,oO⟩)⟩
  have h:yai wBy st=false:=h;rw[h]at hq2;have hn:yan wBy st=st:=by unfold yan;rw[h];rfl
  refine Or.inl ⟨rfl,_,hq2.symm,?_⟩;exact pI.aFD (aM.bD aA [] rfl ⟨bQ,⟨rfl,aY.of_eq (by rw[hn];rfl)⟩,bQ,bQ,oO⟩ ⟨qZ,qZ,qZ,qZ,oO⟩)
 rintro⟨q,⟨w,b⟩⟩ hq3;rw[←hq3]at hP;have hB:rqB s=(b||yag q !=0||(bs (yak q)).toList !=(bs s).toList):=by unfold rqB;rw[←hq3]
 have fB:rqB s=false→aC (.t [.g (yaE q),.s (.d (dI 0))]) (.t [.g (yaE (rqQ s)),.s (.d (dI (rqE s)))]):=by
  intro h;have e1:rqQ s=q:=by unfold rqQ;rw[h,←hq3];rfl
  have e2:rqE s=0:=by unfold rqE;rw[h];rfl
  rw[e1,e2];exact aC.refl _
 have bad:rqB s=true→aC (.t [.g [.d (dI 0),.d eO,.d (dI 0)],.s (.d (dI 7))]) (.t [.g (yaE (rqQ s)),.s (.d (dI (rqE s)))]):=by
  intro h;have e1:rqQ s=ybM:=by unfold rqQ;rw[h];rfl
  have e2:rqE s=7:=by unfold rqE;rw[h];rfl
  rw[e1,e2];exact aC.t ⟨⟨aK.refl _,aK.nil,aK.refl _,oO⟩,aK.refl _,oO⟩
 refine eX aA ?_
 cases b with
 |true=>
  refine aB (hP) ?_;repeat refine aR ?_
  exact bad (by rw[hB];rfl)
 |false=>
  refine aB (hP) ?_;repeat first|refine oi trivial ?_|refine sk ?_|refine st ?_|refine sg ?_|refine sh ?_|refine su ?_|refine sn1 ?_|refine sn0 ?_
  refine aI (fun h=>?_) (fun h=>?_)
  ·have h:=hB.trans h;exact bad h
  have h:=hB.trans h;exact fB h
theorem ycn(w:bJ): -9223372036854775808≤nmV w∧nmV w≤9223372036854775807:=by
 have h:=ycd w (i:=min 14 w.length) (Nat.min_le_left _ _);unfold nmV
 cases(nmF w (min 14 w.length)).2 with
 |true=>exact⟨by simp only [cond_true];omega,by simp only [cond_true];omega⟩
 |false=>exact⟨by simp only [cond_false];omega,by simp only [cond_false];omega⟩
theorem yb6{a b c:bJ}(hb:b.length≤9223372036854775807)(hc:c.length≤9223372036854775807):(yaQ a b c).fits:=by
 have n1:=ycn c;unfold yaQ
 cases yaf (yaq a 0 yaa)with
 |true=>exact⟨show(-9223372036854775808:Int)≤0 by decide,show(0:Int)≤9223372036854775807 by decide,by show(bs b).size≤_;rw[cF];exact hb,by show(bs c).size≤_;rw[cF];exact hc⟩
 |false=>exact⟨n1.1,n1.2,by show(bs b).size≤_;rw[cF];exact hb,by show(bs []).size≤_;rw[cF];exact Nat.zero_le _⟩
theorem ya9:∀(n:Nat) {l:List bJ},(∀w∈l,w.length≤9223372036854775807)→(yar n l).1.length≤n∧∀c∈(yar n l).1,c.fits
 |0,_,_=>⟨Nat.le_refl _,fun c hc=>by cases hc⟩
 |n+1,l,h=>by
  rw[yar]
  cases yaF l with
  |true=>
   obtain⟨h1,h2⟩:=ya9 n (l:=l.drop 4) fun w hw=>h w (List.mem_of_mem_drop hw)
   have hg:∀i,(l.getD i []).length≤9223372036854775807:=fun i=>by
    rw[List.getD_eq_getElem?_getD]
    cases hq:l[i]? with
    |none=>exact Nat.zero_le _
    |some w=>exact h w (List.mem_of_getElem? hq)
   refine⟨by simp only [cond_true,List.length_cons];omega,fun c hc=>?_⟩;simp only [cond_true,List.mem_cons]at hc;rcases hc with rfl|hc
   ·exact yb6 (hg 2) (hg 3)
   exact h2 c hc
  |false=>exact⟨Nat.zero_le _,fun c hc=>by cases hc⟩
theorem ybP(s:bJ)(hs:s.length≤1000):aF prog 9 [vT s] (.t [.g (yaE (pqQ s)),.s (.d (dI (pqE s)))]):=by
 have hl:((bs s).size:Int)=s.length:=by rw[cF]
 refine eW func9 rfl rfl call9 rfl rfl (fun cx aA=>?_);refine sX aA (sX aA ?_);refine aI (fun h1=>?_) (fun h1=>?_)
 ·have h1:decide (((bs s).size:Int)>1000)=true:=h1;rw[hl]at h1;have:=of_decide_eq_true h1;omega
 have vA:=ybG 32 s;have y1:=List.length_pos_iff.2 vA.1;have hel:∀w∈yac 32 s,w.length≤9223372036854775807:=fun w hw=>by have:=ybu hw;omega
 have hR:ybm (yac 32 s)=yaG s:=rfl;refine sX aA (aB (Cut s 32 oM) ?_);generalize yac 32 s=l at*;have hlen:l.length≤1001:=oM;refine sX aA (aB (ybB) ?_);refine oi (show(0:Int)≤0∧(0:Int)<(l.length:Int) by omega) (aB (ybk yaA (l.getD 0 []) dC) ?_);refine aD ?_;generalize hM:yaq (l.getD 0 []) 0 yaA=mea;refine sX aA ?_;have oW:=ya9 l.length (l:=l.drop 1) fun w hw=>hel w (List.mem_of_mem_drop hw)
 generalize hT:yar l.length (l.drop 1)=T at oW;refine AW.pG (fun q:List Cnd×Nat=>⟨[(0,vT s),(2,.s (.ptr 2 0)),(4,.s (.d (J4 l))),(5,.s (.ptr 5 0)),(6,vI q.2)],[(2,some (.cells (iB ty24.zero))),(5,some (.cells [.d (dI mea),.d (yaX q.1),.d (dI 0)]))]⟩) (fun q=>(q.1,l.drop q.2)=T∧q.2≤l.length) ?_ ?_
 ·refine AW.block ?_;refine AW.cG (fun acc:List Cnd=>⟨[(0,vT s),(2,.s (.ptr 2 0)),(4,.s (.d (J4 l))),(5,.s (.ptr 5 0)),(6,vI (4*acc.length+1:Nat))],[(2,some (.cells (iB ty24.zero))),(5,some (.cells [.d (dI mea),.mo acc.isEmpty 100,.d (dI 0)])),(100,some (.b8 37 acc.length 4 (ya4 acc)))]⟩)
   (fun acc=>4*acc.length+1≤l.length∧(acc++(yar (l.length - acc.length) (l.drop (4*acc.length+1))).1,(yar (l.length - acc.length) (l.drop (4*acc.length+1))).2)=T) (fun acc=>l.length - acc.length) [] ⟨by show 1≤l.length;omega,by rw[←hT];rfl⟩ ?_ ?_
  ·exact aM.of [(100,1000)] (by rw[aA];rfl) rfl ⟨bQ,⟨rfl,aY.cells ⟨aU.of_eq (by rw[←hM];rfl),aU.nil rfl,aU.rfl,oO⟩⟩,⟨rfl,rfl⟩,oO⟩ ⟨qZ,qZ,qZ,qZ,qZ,oO⟩
  rintro acc ⟨ha,he⟩;generalize hat:4*acc.length+1=at' at*;refine AW.seq (sX aA ?_);repeat refine aR ?_
  have ew:∀k:Nat,k≤4→aW ((at':Int)+k)=((at'+k:Nat):Int):=fun k hk=>aG oM oM
  have ew3:IntKind.i64.wrap ((at':Int)+3)=((at'+3:Nat):Int):=ew 3 oM;have hb:decide (IntKind.i64.wrap ((at':Int)+3)<(l.length:Int))=true→0≤(at':Int)∧(at':Int)<(l.length:Int):=fun h=>by rw[ew3]at h;have:=of_decide_eq_true h;omega
  refine og hb ?_;repeat refine aR ?_
  refine og (fun h=>hb (Bool.and_eq_true _ _▸h).1) ?_;repeat refine aR ?_
  refine AW.cond ?_;have hd:(l.drop at').headD []=l.getD at' []:=by rw[List.headD_eq_head?_getD,List.head?_drop,List.getD_eq_getElem?_getD]
  have hdk:∀k,(l.drop at').getD k []=l.getD (at'+k) []:=fun k=>by rw[List.getD_eq_getElem?_getD,List.getElem?_drop,List.getD_eq_getElem?_getD]
  have hmore:yaF (l.drop at')=(decide (IntKind.i64.wrap ((at':Int)+3)<(l.length:Int))&&((bs (l.getD at' [])).toList==(bs ya).toList||(bs (l.getD at' [])).toList==(bs yah).toList)):=by unfold yaF;rw[hd,yaK,yaK,List.length_drop,ew3];congr 1;exact decide_eq_decide.2 oM
  have hn:acc.length<l.length:=oM;refine aI (fun h=>AW.skip ?_) (fun h=>AW.exit ?_)
  ·have h:=hmore.trans h;have h3:at'+3<l.length:=by unfold yaF at h;rw[Bool.and_eq_true,List.length_drop]at h;have:=of_decide_eq_true h.1;omega
   have w1:IntKind.i64.wrap ((at':Int)+1)=((at'+1:Nat):Int):=ew 1 oM;have w2:IntKind.i64.wrap ((at':Int)+2)=((at'+2:Nat):Int):=ew 2 oM;have g1:l.getD (IntKind.i64.wrap ((at':Int)+1)).toNat []=l.getD (at'+1) []:=by rw[w1];rfl
   have g2:l.getD (IntKind.i64.wrap ((at':Int)+2)).toNat []=l.getD (at'+2) []:=by rw[w2];rfl
   have g3:l.getD (IntKind.i64.wrap ((at':Int)+3)).toNat []=l.getD (at'+3) []:=by rw[ew3];rfl
   have he:(acc++(yar (l.length - acc.length) (l.drop at')).1,(yar (l.length - acc.length) (l.drop at')).2)=T:=he;rw[show l.length - acc.length=(l.length - (acc.length+1))+1 by omega,yar,h,cond_true,hdk,hdk,hdk,List.drop_drop]at he;refine AW.block (sX aA ?_);refine aB (yaH) ?_;refine oi (show 0≤IntKind.i64.wrap ((at':Int)+1)∧IntKind.i64.wrap ((at':Int)+1)<(l.length:Int) by rw[w1];omega) ?_;refine aB ((ybk yaa (l.getD (at'+1) []) dC).conv (args':=_) ⟨aK.refl _,aK.of_eq (congrArg dT g1),oO⟩) ?_;refine oi (show 0≤IntKind.i64.wrap ((at':Int)+2)∧IntKind.i64.wrap ((at':Int)+2)<(l.length:Int) by rw[w2];omega) ?_;refine aD ?_;have back:∀{c:Cnd},c=yaQ (l.getD (at'+1) []) (l.getD (at'+2) []) (l.getD (at'+3) [])→∃q:List Cnd,q=acc++ [c]∧4*q.length+1≤l.length∧(q++(yar (l.length - q.length) (l.drop (4*q.length+1))).1,(yar (l.length - q.length) (l.drop (4*q.length+1))).2)=T:=by
    rintro c rfl;refine⟨_,rfl,?_,?_⟩
    ·rw[List.length_append,List.length_singleton];omega
    rw[List.length_append,List.length_singleton,List.append_assoc,List.singleton_append,show 4*(acc.length+1)+1=at'+4 by omega];exact he
   refine eX aA (aB (ybO (yaq (l.getD (at'+1) []) 0 yaa)) ?_);refine aI (fun hn=>?_) (fun hn=>?_)
   ·have hn:yaf (yaq (l.getD (at'+1) []) 0 yaa)=true:=hn;refine oi (show 0≤IntKind.i64.wrap ((at':Int)+3)∧IntKind.i64.wrap ((at':Int)+3)<(l.length:Int) by rw[ew3];omega) ?_;refine ob dC ?_;refine ob (by rw[dK];show(acc.length+1)*48≤_;omega) ?_;refine ob (nJ (lt4 rfl rfl rfl rfl)) ?_;obtain⟨q,rfl,b1,b2⟩:=back (c:=(⟨yaq (l.getD (at'+1) []) 0 yaa,bs (l.getD (at'+2) []),0,bs (l.getD (at'+3) [])⟩:Cnd)) (by unfold yaQ;rw[hn];rfl);refine⟨_,⟨b1,b2⟩,by rw[List.length_append,List.length_singleton];omega,?_⟩;refine aM.of [(100,74)] (by rw[aA];rfl) rfl ⟨bQ,⟨rfl,aY.cells ⟨aU.rfl,aU.mo ?_,aU.rfl,oO⟩⟩,⟨rfl,?_⟩,oO⟩ ⟨qZ,qZ,qZ,qZ,⟨rfl,aU.int ?_⟩,oO⟩
    ·exact cA _ _
    ·exact aY.snoc (el:=ybE) (x:=(⟨yaq (l.getD (at'+1) []) 0 yaa,bs (l.getD (at'+2) []),0,bs (l.getD (at'+3) [])⟩:Cnd)) (lt4 rfl (congrArg dT g2) rfl (congrArg dT g3))
    refine(ew 4 oM).trans ?_;rw[List.length_append,List.length_singleton];omega
   have hn:yaf (yaq (l.getD (at'+1) []) 0 yaa)=false:=hn;refine oi (show 0≤IntKind.i64.wrap ((at':Int)+3)∧IntKind.i64.wrap ((at':Int)+3)<(l.length:Int) by rw[ew3];omega) ?_;refine aB ((ycA (l.getD (at'+3) [])).conv (args':=_) ⟨aK.of_eq (congrArg dT g3),oO⟩) (ob dC ?_);refine ob (by rw[dK];show(acc.length+1)*48≤_;omega) ?_;refine ob (nJ (lt4 rfl rfl rfl rfl)) ?_;obtain⟨q,rfl,b1,b2⟩:=back (c:=(⟨yaq (l.getD (at'+1) []) 0 yaa,bs (l.getD (at'+2) []),nmV (l.getD (at'+3) []),bs []⟩:Cnd)) (by unfold yaQ;rw[hn];rfl);refine⟨_,⟨b1,b2⟩,by rw[List.length_append,List.length_singleton];omega,?_⟩;refine aM.of [(100,74)] (by rw[aA];rfl) rfl ⟨bQ,⟨rfl,aY.cells ⟨aU.rfl,aU.mo ?_,aU.rfl,oO⟩⟩,⟨rfl,?_⟩,oO⟩ ⟨qZ,qZ,qZ,qZ,⟨rfl,aU.int ?_⟩,oO⟩
   ·exact cA _ _
   ·exact aY.snoc (el:=ybE) (x:=(⟨yaq (l.getD (at'+1) []) 0 yaa,bs (l.getD (at'+2) []),nmV (l.getD (at'+3) []),bs []⟩:Cnd)) (lt4 rfl (congrArg dT g2) rfl rfl)
   refine(ew 4 oM).trans ?_;rw[List.length_append,List.length_singleton];omega
  have h:=hmore.trans h;have he:(acc++(yar (l.length - acc.length) (l.drop at')).1,(yar (l.length - acc.length) (l.drop at')).2)=T:=he;rw[show l.length - acc.length=(l.length - (acc.length+1))+1 by omega,yar,h,cond_false,List.append_nil]at he;refine Or.inl ⟨rfl,(acc,at'),⟨he,by show at'≤l.length;omega⟩,?_⟩
  cases hz:acc.isEmpty with
  |true=>exact pI.aFD (aM.bD aA [] rfl ⟨bQ,⟨rfl,aY.cells ⟨aU.rfl,fun M β v r=>ybt (List.isEmpty_iff.1 hz) M β v (aU.aGT rfl M β v r),aU.rfl,oO⟩⟩,oO⟩ ⟨qZ,qZ,qZ,qZ,qZ,oO⟩)
  |false=>exact pI.tr (pI.aFD (aM.aLE (e:=37) (n:=acc.length) (s:=4) (f:=ya4 acc) (z:=false) (cs:=[.d (dI mea),.mo false 100,.d (dI 0)]) 5 1 100 rfl rfl rfl rfl)) (pI.of aA [] [100] rfl rfl rfl ⟨⟨rfl,hI.rfl⟩,⟨rfl,hI.cells ⟨b7.rfl,fun M β v hf r=>b7.own sM rfl M β v hf (r.2 rfl),b7.rfl,oO⟩⟩,oO⟩ ⟨⟨rfl,b7.rfl⟩,⟨rfl,b7.rfl⟩,⟨rfl,b7.rfl⟩,⟨rfl,b7.rfl⟩,⟨rfl,b7.rfl⟩,oO⟩)
 rintro⟨cs,at'⟩ ⟨hq,hat⟩;have hq:(cs,l.drop at')=T:=hq;have hat:at'≤l.length:=hat;have hq2:yaG s=⟨mea,cs,bif decide (1<(l.drop at').length)&&(l.drop at').headD []==wBy then yaq ((l.drop at').getD 1 []) 0 yaa else 0⟩:=by rw[←hR];unfold ybm;simp only [hT,hM,←hq]
 rw[←hq]at oW;have hd:(l.drop at').headD []=l.getD at' []:=by rw[List.headD_eq_head?_getD,List.head?_drop,List.getD_eq_getElem?_getD]
 have hd1:(l.drop at').getD 1 []=l.getD (at'+1) []:=by rw[List.getD_eq_getElem?_getD,List.getElem?_drop,List.getD_eq_getElem?_getD]
 have w1:IntKind.i64.wrap ((at':Int)+1)=((at'+1:Nat):Int):=aG oM oM;have g1:l.getD (IntKind.i64.wrap ((at':Int)+1)).toNat []=l.getD (at'+1) []:=by rw[w1];rfl
 have hcond:(decide (1<(l.drop at').length)&&(l.drop at').headD []==wBy)=(decide (IntKind.i64.wrap ((at':Int)+1)<(l.length:Int))&&(bs (l.getD at' [])).toList==(bs wBy).toList):=by rw[hd,yaK,List.length_drop,w1];congr 1;exact decide_eq_decide.2 oM
 rw[hcond,hd1]at hq2;have hf:(yaG s).fits:=by rw[hq2];exact⟨by show cs.length≤_;have h1:cs.length≤l.length:=oW.1;omega,oW.2⟩
 have hP:=ya6 (yaG s) hf;refine AW.pG (fun q:Qry=>⟨[(0,vT s),(2,.s (.ptr 2 0)),(5,.s (.ptr 5 0))],[(2,some (.cells (iB ty24.zero))),(5,some (.cells (yaE q)))]⟩) (fun q=>q=yaG s) ?_ ?_
 ·refine eX aA ?_;repeat refine aR ?_
  refine og (fun h=>?_) ?_
  ·have h:decide (IntKind.i64.wrap ((at':Int)+1)<(l.length:Int))=true:=h;rw[w1]at h;have:=of_decide_eq_true h;exact⟨oM,oM⟩
  repeat refine aR ?_
  refine aI (fun h=>?_) (fun h=>?_)
  ·have h:(decide (IntKind.i64.wrap ((at':Int)+1)<(l.length:Int))&&(bs (l.getD at' [])).toList==(bs wBy).toList)=true:=h;rw[h]at hq2;rw[Bool.and_eq_true,w1]at h;have h3:=of_decide_eq_true h.1;refine aB (yaH) ?_;refine oi (show 0≤IntKind.i64.wrap ((at':Int)+1)∧IntKind.i64.wrap ((at':Int)+1)<(l.length:Int) by rw[w1];omega) ?_;refine aB ((ybk yaa (l.getD (at'+1) []) dC).conv (args':=_) ⟨aK.refl _,aK.of_eq (congrArg dT g1),oO⟩) (aD ?_);exact Or.inl ⟨rfl,_,hq2.symm,pI.aFD (aM.bD aA [] rfl ⟨bQ,bQ,oO⟩ ⟨qZ,qZ,qZ,oO⟩)⟩
  have h:(decide (IntKind.i64.wrap ((at':Int)+1)<(l.length:Int))&&(bs (l.getD at' [])).toList==(bs wBy).toList)=false:=h;rw[h]at hq2;exact Or.inl ⟨rfl,_,hq2.symm,pI.aFD (aM.bD aA [] rfl ⟨bQ,bQ,oO⟩ ⟨qZ,qZ,qZ,oO⟩)⟩
 rintro q hq3;rw[←hq3]at hP;have hB:pqB s=(yag q !=0||(bs (yak q)).toList !=(bs s).toList):=by unfold pqB;rw[←hq3]
 refine eX aA (aB (hP) ?_);repeat refine aR ?_
 refine aI (fun h=>?_) (fun h=>?_)
 ·have h:pqB s=true:=hB.trans h;have e1:pqQ s=ybM:=by unfold pqQ;rw[h];rfl
  have e2:pqE s=7:=by unfold pqE;rw[h];rfl
  rw[e1,e2];exact aC.t ⟨⟨aK.refl _,aK.nil,aK.refl _,oO⟩,aK.refl _,oO⟩
 have h:pqB s=false:=hB.trans h;have e1:pqQ s=q:=by unfold pqQ;rw[h,←hq3];rfl
 have e2:pqE s=0:=by unfold pqE;rw[h];rfl
 rw[e1,e2];exact aC.refl _
def ya2(q:Qry):Bool:= !decide ((q.conds.length:Int)>15)&&q.conds.all fun c=> !(decide ((c.op.size:Int)>10)||decide ((c.name.size:Int)>40))
theorem ycE(q:Qry)(hq:q.fits):aF prog 4 [ybq q] (vB (ya2 q)):=by
 refine eP func4 rfl rfl call4 rfl rfl fun cx aA=>aI (fun a1=>?_) (fun a1=>?_)
 ·have a1:decide ((q.conds.length:Int)>15)=true:=a1;exact aC.lit (by unfold ya2;rw[a1];rfl)
 have a1:decide ((q.conds.length:Int)>15)=false:=a1;have h15:q.conds.length≤15:=by have:=of_decide_eq_false a1;omega
 have hS:ya2 q=q.conds.all fun c=> !(decide ((c.op.size:Int)>10)||decide ((c.name.size:Int)>40)):=by unfold ya2;rw[a1];rfl
 rw[hS];refine AW.cG (fun i:Nat=>⟨[(1,.s (.ptr 1 0)),(3,vI i)],[(1,some (.cells (yaE q)))]⟩)
  (fun i=>i≤q.conds.length∧(q.conds.all fun c=> !(decide ((c.op.size:Int)>10)||decide ((c.name.size:Int)>40)))=(q.conds.drop i).all fun c=> !(decide ((c.op.size:Int)>10)||decide ((c.name.size:Int)>40))) (fun i=>q.conds.length - i) 0 ⟨Nat.zero_le _,rfl⟩ ?_ ?_
 ·exact aM.bD aA [] rfl ⟨bQ,oO⟩ ⟨qZ,qZ,oO⟩
 rintro i ⟨hi,he⟩;refine eX aA (aI (fun h=>?_) (fun h=>?_))
 ·have h:(i:Int)<(q.conds.length:Int):=bG h;have bC:i<q.conds.length:=oM;have hd:q.conds.drop i=q.conds.getD i default::q.conds.drop (i+1):=by rw[List.getD_eq_getElem?_getD,List.getElem?_eq_getElem bC];exact List.drop_eq_getElem_cons bC
  have hx:((q.conds.drop i).all fun c=> !(decide ((c.op.size:Int)>10)||decide ((c.name.size:Int)>40)))=(!(decide (((q.conds.getD i default).op.size:Int)>10)||decide (((q.conds.getD i default).name.size:Int)>40))&&(q.conds.drop (i+1)).all fun c=> !(decide ((c.op.size:Int)>10)||decide ((c.name.size:Int)>40))):=by rw[hd,List.all_cons]
  refine oi ⟨oM,oM⟩ ?_;repeat refine aR ?_
  refine og (fun _=>⟨oM,oM⟩) ?_;repeat refine aR ?_
  refine aI (fun g=>?_) (fun g=>?_)
  ·have g:(decide (((q.conds.getD i default).op.size:Int)>10)||decide (((q.conds.getD i default).name.size:Int)>40))=true:=g;exact aC.lit (by rw[he,hx,g];rfl)
  have g:(decide (((q.conds.getD i default).op.size:Int)>10)||decide (((q.conds.getD i default).name.size:Int)>40))=false:=g;refine⟨i+1,⟨oM,by rw[he,hx,g];rfl⟩,oM,?_⟩;exact aM.bD aA [] rfl ⟨bQ,oO⟩ ⟨qZ,⟨rfl,aU.int (aG oM oM)⟩,oO⟩
 have h:¬(i:Int)<(q.conds.length:Int):=bF h;have e:i=q.conds.length:=oM;exact aC.lit (by rw[he,e,List.drop_length];rfl)
theorem ycf{q:Qry}(hq:q.fits):(yaB q).fits:=by
 refine⟨by show(q.conds.map yaw).length≤_;rw[List.length_map];exact hq.len,fun c hc=>?_⟩;obtain⟨d,hd,rfl⟩:=List.mem_map.1 hc;have h:=hq.conds d hd;have e0:(bs []).size≤9223372036854775807:=by rw[cF];exact Nat.zero_le _
 cases hn:yaf d.field with
 |true=>exact⟨by unfold yaw;rw[hn];exact(by decide:(-9223372036854775808:Int)≤0),by unfold yaw;rw[hn];exact(by decide:(0:Int)≤9223372036854775807),h.op,by unfold yaw;rw[hn];exact h.name⟩
 |false=>exact⟨by unfold yaw;rw[hn];exact h.lo,by unfold yaw;rw[hn];exact h.hi,h.op,by unfold yaw;rw[hn];exact e0⟩
theorem ycu{s:bJ}(hs:s.length<4294967281):(rqQ s).fits:=by
 have h:=XK (s:=s) hs false;have h0:(ybM).fits:=⟨Nat.zero_le _,fun c hc=>by cases hc⟩;unfold rqQ
 cases rqB s with
 |true=>exact h0
 |false=>
  have h1:sJ (dL (sG s [32],false)).2:=sJ.word (s:=(sG s [32],false)) h;have oW:=yaS ((dL (sG s [32],false)).2.1.length+1) (yai ya (dL (sG s [32],false)).2) (sJ.ybb (w:=ya) h1);have hl:(dL (sG s [32],false)).2.1.length≤4294967296:=h1.1;show(rqT s).1.fits;unfold rqT ya5;dsimp only
  cases yai wBy (yam ((dL (sG s [32],false)).2.1.length+1) (yai ya (dL (sG s [32],false)).2) (yan ya (dL (sG s [32],false)).2)).2 <;> exact⟨by simp only [cond_true,cond_false];omega,oW.2⟩
theorem ybn(q:Qry)(s:bJ)(hq:q.fits):aF prog 3 [ybq q,vT s] (vB true):=by
 refine eP func3 rfl rfl call3 rfl rfl fun cx aA=>aB (ycE q hq) ?_
 repeat refine aR ?_
 refine aI (fun h=>aB (aDP) (aC.refl _)) (fun h=>?_);have h:(!ya2 q||decide (((bs s).size:Int)>300))=false:=h;rw[Bool.or_eq_false_iff,cF]at h;have hl:s.length≤1000:=by have:=of_decide_eq_false h.2;omega
 obtain⟨q1,q2⟩:=yct s;have hP:=ybd s oM;have hR:=ybP s hl;have hf:=ycu (s:=s) oM;rw[←q1,←q2]at hR;generalize rqQ s=x at hP hR hf;generalize rqE s=j at hP hR;refine aB (yaV q hq) (aB (ya6 q hq) ?_);refine aB (hP) (aB (hR) ?_);repeat refine aR ?_
 have key:(((((((bs (yak q)).toList !=(bs (yak q)).toList)||(yag q !=yag q))||(j !=j))||(x.mea !=x.mea))||(x.grp !=x.grp))||((x.conds.length:Int) !=(x.conds.length:Int)))=false:=sM;refine aI (fun h2=>Bool.noConfusion (key.symm.trans h2)) (fun _=>?_);refine AW.cG (fun i:Nat=>⟨[(1,vT s),(2,.s (.ptr 2 0)),(5,vT (yak q)),(8,vI (yag q)),(9,.s (.ptr 9 0)),(11,.s (.ptr 11 0)),(13,vI i)],[(2,some (.cells (yaE q))),(9,some (.cells (yaE x))),(11,some (.cells (yaE x)))]⟩)
  (fun i=>i≤x.conds.length) (fun i=>x.conds.length - i) 0 (Nat.zero_le _) ?_ ?_
 ·exact aM.bD aA [] rfl ⟨bQ,bQ,bQ,oO⟩ ⟨qZ,qZ,qZ,qZ,qZ,qZ,qZ,oO⟩
 intro i hi;have hxl:=hf.len;refine eX aA (aI (fun h3=>?_) (fun h3=>?_))
 ·have h3:(i:Int)<(x.conds.length:Int):=bG h3;refine oi ⟨oM,oM⟩ (oi ⟨oM,oM⟩ ?_);refine aD ?_;have same:∀c:Cnd,(!((c.field==c.field)&&((c.op.toList==c.op.toList)&&((c.num==c.num)&&((c.name.toList==c.name.toList)&&true)))))=false:=fun c=>by simp
  refine aI (fun h4=>Bool.noConfusion ((same (x.conds.getD i default)).symm.trans h4)) (fun _=>?_);exact⟨i+1,oM,oM,aM.bD aA [] rfl ⟨bQ,bQ,bQ,oO⟩ ⟨qZ,qZ,qZ,qZ,qZ,qZ,⟨rfl,aU.int (aG oM oM)⟩,oO⟩⟩
 refine aI (fun h5=>aB (aDP) (aC.refl _)) (fun h5=>?_);have h5:(yag q !=0)=false:=h5;have h0:yag q=0:=by simpa using h5
 obtain⟨a1,a2,_⟩:=ya3 h0;have b1:rqE (yak q)=0:=by unfold rqE;rw[a1];rfl
 have hB:=ybd (yak q) (by have:=ybN q;omega);have hA:=yaV (yaB q) (ycf hq);obtain⟨k1,k2⟩:=ybA q;rw[b1,a2]at hB;rw[k1,k2,h0]at hA;refine aB (hB) (aB (hA) ?_);repeat refine aR ?_
 refine bR (aDP) ?_;repeat refine aR ?_
 exact aC.lit (show((((0:Int)==0)&&((0:Int)==0))&&((bs (yak q)).toList==(bs (yak q)).toList)&&true)=true by simp)
theorem ybx{n:Int}(h:nC n): -9223372036854775808≤n∧n≤9223372036854775807:=by simp[nC,Lit.wf,IntKind.min,IntKind.max,IntKind.signed,IntKind.bits]at h;omega
theorem ycL:Rd prog 37 4 ycm Cnd.fits:=
 (fI underlying37 rfl kR (aS rfl rI (aS rfl rS (aS rfl rI (aS rfl rS jN))))).to (fun a=>(⟨a.1,a.2.1,a.2.2.1,a.2.2.2.1⟩:Cnd)) (fun _=>rfl) (fun _ h=>⟨(ybx h.2.2.1).1,(ybx h.2.2.1).2,h.2.1,h.2.2.2.1⟩)
theorem ycG:Rd prog 22 1 (fun l:List Cnd=>[.d (yaX l)]) (fun l=>lim l.length∧∀a∈l,a.fits):=
 kF underlying22 kR ycL dC ybE (fun _=>rfl) (fun a j hj=>by match j,hj with|0,_|1,_|2,_|3,_=>rfl)
theorem ycN:RdA prog 24 ybq Qry.fits:=
 VN (k:=3) underlying24 ((fI underlying24 rfl kR (aS rfl rI (aS rfl ycG (aS rfl rI jN)))).to (fun a=>(⟨a.1,a.2.1,a.2.2.1⟩:Qry)) (fun _=>rfl) (fun _ h=>⟨h.2.1.1,h.2.1.2⟩))
theorem ProjectQueriesB(q:Qry)(b:ByteArray)(hq:q.fits):aF prog 3 [ybq q,vS b] (vB true):=by have h:=ybn q (tx b) hq;rwa [show vT (tx b)=vS b by show AV.s (.d (dS (bs (tx b))))=_;rw[CJ]]at h
end Go.Pj
