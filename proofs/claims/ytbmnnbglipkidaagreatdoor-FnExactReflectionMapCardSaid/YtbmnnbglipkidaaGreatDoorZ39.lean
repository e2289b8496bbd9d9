/-
  What is owned and keeps some of what it holds to itself; slices of truth values; pairs of lists as keys of maps.
-/
import Derived.Test.YtbmnnbglipkidaaGreatDoorZ59
namespace Go.Proofs.YtbmnnbglipkidaaGreatDoor
set_option linter.unusedVariables false
set_option linter.unusedSimpArgs false
open Go.RowKit
def hdn {ι:Type}(φ:ι→Prop)(L:ι→List Asn):Asn where
  p F w:=∃ j,φ j∧(pack (L j)).p F w
  loc h hw:=let ⟨j,h1,h2⟩:=h;⟨j,h1,(pack (L j)).loc h2 hw⟩
section
variable {ι:Type}{φ:ι→Prop}{L:ι→List Asn}{W w:World}{own:List Asn}{P:Program}{n:Nat}{env:List (Nat × Value)}
theorem St.hdnClose {j:ι}(hj:φ j)(h:St W w (L j++own)):St W w (Proofs.YtbmnnbglipkidaaGreatDoor.hdn φ L::own):=by
  obtain⟨h1,h2,h3,F,h4,F1,F2,a1,a2,a3,a4⟩:=St.pack h
  exact⟨h1,h2,h3,F,h4,F1,F2,a1,a2,⟨j,hj,a3⟩,a4⟩
theorem St.hdnOpen (h:St W w (Proofs.YtbmnnbglipkidaaGreatDoor.hdn φ L::own)):∃ j,φ j∧St W w (L j++own):=by
  obtain⟨h1,h2,h3,F,h4,F1,F2,a1,a2,⟨j,hj,a3⟩,a4⟩:=h
  exact⟨j,hj,St.unpack ⟨h1,h2,h3,F,h4,F1,F2,a1,a2,a3,a4⟩⟩
theorem GC.hdnOpen {c:Code}{Q:Exit→Act→World→Prop}(h:∀ j,φ j→GC P c Q n env W (L j++own)):GC P c Q n env W (Proofs.YtbmnnbglipkidaaGreatDoor.hdn φ L::own):=fun a w hf hs=>by
  obtain⟨j,h1,h2⟩:=hs.hdnOpen
  exact h j h1 a w hf h2
theorem GC.hdnClose {c:Code}{Q:Exit→Act→World→Prop}(j:ι)(hj:φ j)(h:GC P c Q n env W (Proofs.YtbmnnbglipkidaaGreatDoor.hdn φ L::own)):GC P c Q n env W (L j++own):=fun a w hf hs=>h a w hf (hs.hdnClose hj)
theorem G.hdnOpen {ops:Array Oper}{Q:Exit→Act→World→Prop}{rest:List Oper}(h:∀ j,φ j→G P ops Q rest n env W (L j++own)):G P ops Q rest n env W (Proofs.YtbmnnbglipkidaaGreatDoor.hdn φ L::own):=fun a w hf hs=>by
  obtain⟨j,h1,h2⟩:=hs.hdnOpen
  exact h j h1 a w hf h2
theorem GE.hdnClose {e:Exit}{Q:Exit→Act→World→Prop}(j:ι)(hj:φ j)(h:GE e Q n env W (Proofs.YtbmnnbglipkidaaGreatDoor.hdn φ L::own)):GE e Q n env W (L j++own):=fun a w hf hs=>h a w hf (hs.hdnClose hj)
theorem Spec.atIdx {f:FuncId}{vs:List Value}{A:Asn}{i:Nat}{r:Value}(h:own[i]?=some A)(hs:Spec P f vs W (A::own.eraseIdx i) fun v ow=>v=r∧ow=A::own.eraseIdx i):Spec P f vs W own fun v ow=>v=r∧ow=own:=fun w hst=>by
  refine(hs w (hst.perm (Bv h))).mono ?_
  rintro e w2 ⟨v,ow,he,⟨hv,rfl⟩,hs2⟩
  exact⟨v,own,he,⟨hv,rfl⟩,hs2.perm (Bv h).symm⟩
theorem Spec.atIdx2 {f:FuncId}{vs:List Value}{A B:Asn}{i j:Nat}{r:Value}(h:own[i]?=some A)(h2:(own.eraseIdx i)[j]?=some B)(hs:Spec P f vs W (A::B::(own.eraseIdx i).eraseIdx j) fun v ow=>v=r∧ow=A::B::(own.eraseIdx i).eraseIdx j):Spec P f vs W own fun v ow=>v=r∧ow=own:=fun w hst=>by
  have p1:=Bv h
  have p2:=(Bv h2).cons A
  refine(hs w ((hst.perm p1).perm p2)).mono ?_
  rintro e w2 ⟨v,ow,he,⟨hv,rfl⟩,hs2⟩
  exact⟨v,own,he,⟨hv,rfl⟩,(hs2.perm p2.symm).perm p1.symm⟩
def bls (e:Nat)(v:Value)(xs:List Bool):Asn:=row e 1 v xs.length (xs.map Value.bool)
variable {o:Oper}{e t bytes:Nat}{x y:Operand}{v:Value}{xs:List Bool}{i j:Nat}
theorem Ent.bls (h:own[i]?=some (Proofs.YtbmnnbglipkidaaGreatDoor.bls e v xs)):Ent own fun w=>Sl w v xs.length 1 (xs.map Value.bool):=Ent.row h
theorem OD.loadBool {pl:List (Nat × Nat)}{zero:Value}(hop:o.op = .load e x)(ti:TI P e false 1 zero pl)(hx:ev env x=some (Aa v 1 j))(hv:Ent own fun w=>Sl w v xs.length 1 (xs.map Value.bool))(hj:j<xs.length):OD P o n env W own (.bool (xs.getD j false)) own :=
  OD.loadElem hop ti hx hv hj (by simp[List.getD,hj])
theorem OD.storeBool {pl:List (Nat × Nat)}{zero:Value}{q:Bool}(hop:o.op = .store e x y)(ti:TI P e false 1 zero pl)(hx:ev env x=some (Aa v 1 j))(hy:ev env y=some (.bool q))
    (hi:own[i]?=some (Proofs.YtbmnnbglipkidaaGreatDoor.bls e v xs)) (hj:j<xs.length):OD P o n env W own undef (own.set i (Proofs.YtbmnnbglipkidaaGreatDoor.bls e v (xs.set j q))):=by
  have h:=OD.storeElem (P:=P) (n:=n) (W:=W) hop ti hx hy rfl hi hj
  have e1:(xs.map Value.bool).set j (.bool q)=(xs.set j q).map Value.bool:=by simp[List.map_set]
  rw[e1] at h
  simpa [Proofs.YtbmnnbglipkidaaGreatDoor.bls] using h
theorem OG.makeBools {c:Operand}(hop:o.op = .makeSlice t x c)(et:ET P t e 1 1 (.bool false)){q:Int}(hx:ev env x=some (.int .i64 q))(hc:ev env c=some (.int .i64 q))(hq:0≤q∧q≤1099511627776) :
    OG P o n env W own fun v own'=>Ab v∧own'=Proofs.YtbmnnbglipkidaaGreatDoor.bls e v (List.replicate q.toNat false)::own:=fun a w next Q hf hs hk=>by
  refine OG.make (P:=P) hop et hx hc hq.1 (by omega) (by simp[maxLen];omega) a w next Q hf hs fun v w' own' ⟨h1,h2⟩ hs'=>hk v w' own' ⟨h1,?_⟩ hs'
  rw[h2,Nat.mul_one]
  show row e 1 v q.toNat (madeCells #[Value.bool false] q.toNat).toList::own=_
  rw[toList_madeCells_one]
  simp[Proofs.YtbmnnbglipkidaaGreatDoor.bls]
end
def Xi (p:List Int × List Int):ByteArray:=(Ca p.1++⟨#[44]⟩)++Ca p.2
def keyP (p:List Int × List Int):Value := .string (Xi p)
theorem LP (xs:List Int):∀ b∈ER xs,b≠44:=by
  have tail:∀ xs:List Int,∀ b∈Lib.joinTail [32] (xs.map Lib.itoa),b≠44:=by
    intro xs
    induction xs with
    | nil=>intro b hb;simp[Lib.joinTail] at hb
    | cons x xs ih =>
      intro b hb
      have hb':b∈[(32:UInt8)]++(Lib.itoa x++Lib.joinTail [32] (xs.map Lib.itoa)):=by simpa [Lib.joinTail] using hb
      rcases List.mem_append.1 hb' with h | h
      · rw[List.mem_singleton.1 h];decide
      · rcases List.mem_append.1 h with h | h
        · intro e
          exact(Ec x b h).2 (by rw[e];rfl)
        · exact ih b h
  intro b hb
  cases xs with
  | nil=>simp[ER,Lib.join] at hb
  | cons x xs =>
    have e:ER (x::xs)=Lib.itoa x++Lib.joinTail [32] (xs.map Lib.itoa):=by rw[ER,List.map_cons,Lib.join_cons]
    rw[e] at hb
    rcases List.mem_append.1 hb with h | h
    · intro e
      exact(Ec x b h).2 (by rw[e];rfl)
    · exact tail xs b h
theorem YF {p q:List Int × List Int}(h:Xi p=Xi q):p=q:=by
  have h1:ER p.1++44::ER p.2=ER q.1++44::ER q.2:=by
    have:=congrArg (fun b:ByteArray=>b.data.toList) h
    simpa [Xi,Ca,ByteArray.data_append] using this
  obtain⟨e1,e2⟩:=MD (c:=44) (LP _) (LP _) (.inr ⟨_,rfl⟩) (.inr ⟨_,rfl⟩) h1
  have e3:=KV e1
  have e4:=KV (List.cons.inj e2).2
  cases p
  cases q
  simp_all
theorem dp (p q:List Int × List Int):Xi p=Xi q↔p=q:=⟨YF,fun h=>by rw[h]⟩
theorem aZ {P:Program}{kt:TypeId}(h:P.underlying kt=some .string):KeyE P kt keyP :=
  ⟨⟨_,h,fun _=>trivial,fun a b=>by
    show some (Xi a==Xi b)=_
    rw[MU]
    exact congrArg some (decide_eq_decide.2 (dp a b))⟩,fun a=>by
    show (Xi a==Xi a)=true
    rw[MU,decide_eq_true rfl]⟩
section
variable {n:Int}{d:List Int}
theorem N3 {RH:List (List Int × Int)}{z:List Int}{h:List Int→Int}:∀ (L:List (List Int)) {k:Nat},k<L.length→(∀ j,j<k→cnF RH (lA z (-1) (L.getD j []))=0)→cnF RH (lA z (-1) (L.getD k []))≠0→C1 RH z (L.map fun r=>(r,h r))=(L.getD k [],lA z (-1) (L.getD k []))
  | [],k,hk,_,_=>by simp at hk
  | r::t,0,_,_,h2=>by
    rw[List.map_cons,C1,B3]
    have h3:cnF RH (lA z (-1) r)≠0:=h2
    rw[decide_eq_false h3]
    rfl
  | r::t,k+1,hk,h1,h2=>by
    rw[List.map_cons,C1,B3]
    have h3:cnF RH (lA z (-1) r)=0:=h1 0 (by omega)
    rw[decide_eq_true h3]
    exact N3 t (by simpa using hk) (fun j hj=>h1 (j+1) (by omega)) h2
theorem SF (hS:(Ax n d).isSome=true){g f:List Int}(hg:rtB (rSt n d) g=true)(hf:rtB (rSt n d) f=true)(hp:cnRch (Bl n d) g f≤3) :
    FH (fun(m:Nat)=>EL n (A7 n d) (Af g (-1*(m:Int)) f)) 40 0=cnRch (Bl n d) g f∧FH (fun(m:Nat)=>rtB (rSt n d) (Af g (m:Int) (Av f))) 40 0=cnRch (Bl n d) g f:=by
  obtain⟨g1,g2,_⟩:=Aw hS hg
  obtain⟨f1,f2,_⟩:=Aw hS hf
  have hl:f.length=g.length:=by omega
  have e:∀ m:Nat,m≤4→(KY (lA g (-(m:Int)) f) fun u => !(decide (Zh (Bl n d) u=0)))=rtB (rSt n d) (lA g (-(m:Int)) f):=fun m _=>by rw[B3,O8 hS,Bool.not_not]
  have e1:∀ m:Nat,m≤4→EL n (A7 n d) (Af g (-1*(m:Int)) f)=rtB (rSt n d) (lA g (-(m:Int)) f):=fun m hm=>by
    rw[← (rtOk hS).any (Bn (ten_64' g2)),U3 hl (by omega) (Fl g2) (Fl f2),Int.neg_mul,Int.one_mul]
  have e2:∀ m:Nat,m≤4→rtB (rSt n d) (Af g (m:Int) (Av f))=rtB (rSt n d) (lA g (-(m:Int)) f):=fun m hm=>by
    rw[U3 (by rw[AC];exact hl) (by omega) (Fl g2) (Fl (Uf f2)),QD _ hl]
  obtain⟨_,a2,a3⟩:=Qd (f:=fun(m:Nat)=>KY (lA g (-(m:Int)) f) fun u => !(decide (Zh (Bl n d) u=0))) 4 0
  have ep:cnRch (Bl n d) g f=FH (fun(m:Nat)=>KY (lA g (-(m:Int)) f) fun u => !(decide (Zh (Bl n d) u=0))) 4 0:=rfl
  rw[← ep] at a2 a3
  generalize cnRch (Bl n d) g f=p at *
  have b2:∀ j,j<p→rtB (rSt n d) (lA g (-((j+1:Nat):Int)) f)=true:=fun j hj=>(e (j+1) (by omega)).symm.trans (a2 j (Nat.zero_le _) hj)
  have b3:rtB (rSt n d) (lA g (-((p+1:Nat):Int)) f)=false:=(e (p+1) (by omega)).symm.trans (a3 (by omega))
  exact⟨Py 40 0 p (Nat.zero_le _) (by omega) (fun j _ hj=>(e1 (j+1) (by omega)).trans (b2 j hj)) ((e1 (p+1) (by omega)).trans b3),Py 40 0 p (Nat.zero_le _) (by omega) (fun j _ hj=>(e2 (j+1) (by omega)).trans (b2 j hj)) ((e2 (p+1) (by omega)).trans b3)⟩
where
  ten_64' {x:List Int} (h:ten x):All64 x:=fun y hy=>by
    obtain⟨k,hk,rfl⟩:=List.mem_iff_getElem.1 hy
    have:=h k
    have e:x.getD k 0=x[k]:=by simp[List.getD,hk]
    rw[e] at this
    exact⟨by omega,by omega⟩
def shF (n:Int)(d a b c e:List Int):Int:=if rtB (rSt n d) (lA a 1 b) then(6*nF n d a b*nF n d c e).tdiv (hn n d (lA a 1 b)) else 0
theorem Rp (hS:(Ax n d).isSome=true)(a b c e:List Int):Xn (Bl n d) (Oj n d) a b c e=shF n d a b c e:=by
  rw[Xn,B3,GW,O8 hS,PJ hS,shF]
  cases rtB (rSt n d) (lA a 1 b) <;> rfl
theorem UK (hS:(Ax n d).isSome=true){a b c e:List Int}(ha:rtB (rSt n d) a=true)(hb:rtB (rSt n d) b=true)(hc:rtB (rSt n d) c=true)(he:rtB (rSt n d) e=true) : -864≤shF n d a b c e∧shF n d a b c e≤864:=by
  rw[shF]
  split
  · rename_i h
    have h1:=DD hS ha hb
    have h2:=DD hS hc he
    have h3:=A9 (a:=6*nF n d a b) (b:=nF n d c e) (A:=72) (B:=12) (by omega) (by omega)
    exact C4 (Ce hS h).1 (by omega)
  · omega
structure Fst (n:Int)(d z:List Int)(k p:Nat)(r s:List Int):Prop where
  hr:r∈rSt n d
  hs:s∈rSt n d
  sum:sP r+sP s=sP z
  hp:p≤3
  run:FH (fun(m:Nat)=>EL n (A7 n d) (Af s (-1*(m:Int)) r)) 40 0=p
  runS:FH (fun(m:Nat)=>rtB (rSt n d) (Af s (m:Int) (Av r))) 40 0=p
  at_:∀ {x y},x∈rSt n d→y∈rSt n d→lA x 1 y=z→nF n d x y=if x=r then(p:Int)+1 else if y=r then -((p:Int)+1) else(hn n d z*(shF n d y (Av r) x (Av s)+shF n d (Av r) x y (Av s))).tdiv (6*((p:Int)+1))
theorem bB (hS:(Ax n d).isSome=true){z:List Int}(hz:z∈rSt n d){k:Nat}(hk:k<(rSt n d).length)(h0:∀ j,j<k→(rSt n d).contains (lA z (-1) ((rSt n d).getD j []))=false)(h1:(rSt n d).contains (lA z (-1) ((rSt n d).getD k []))=true) :
    ∃ p,Fst n d z k p ((rSt n d).getD k []) (lA z (-1) ((rSt n d).getD k [])):=by
  have hr:(rSt n d).getD k []∈rSt n d:=by
    have e:(rSt n d).getD k []=(rSt n d)[k]:=by simp[List.getD,hk]
    rw[e]
    exact List.getElem_mem hk
  have hs:=AG.1 h1
  have hz0:∀ {u},(rSt n d).contains u=false→cnF (Bl n d) u=0:=fun {u} h=>by rw[GI,h];rfl
  have hz1:cnF (Bl n d) (lA z (-1) ((rSt n d).getD k []))≠0:=fun e=>by
    have:=V6 hS (lA z (-1) ((rSt n d).getD k []))
    rw[h1,decide_eq_true e] at this
    cases this
  have ef:C1 (Bl n d) z (Bl n d)=((rSt n d).getD k [],lA z (-1) ((rSt n d).getD k [])):=N3 (rSt n d) hk (fun j hj=>hz0 (h0 j hj)) hz1
  have hp:=(Y0 (QO hS) hz).1
  have hta:=fun {x y:List Int} (h:Dec n d z x y)=>(LH hS h).1
  rw[ef] at hp
  simp only[ef] at hta
  generalize (rSt n d).getD k []=r at *
  have hrun:=SF hS (Au hs) (Au hr) hp
  have l1:=(Ay hS hz).1
  have l2:=(Ay hS hr).1
  refine⟨_,hr,hs,?_,hp,hrun.1,hrun.2,fun {x y} hx hy e=>?_⟩
  · rw[Te (by omega)]
    omega
  · have hD:Dec n d z x y:=by
      have:=GD hS hx hy (by rw[e];exact hz)
      rwa [e] at this
    have hsx:=BS hS hx
    have hsy:=BS hS hy
    rw[LD hS (by rw[e];exact Au hz) (by omega) (by omega),e,hta hD,fR,Qr,Qr,B3,B3,Rp hS,Rp hS]
    by_cases e1:x=r
    · simp[e1]
    · by_cases e2:y=r
      · simp[e1,e2]
      · simp[e1,e2]
theorem YT {h A B nu nv a b p:Int}(hu:(nu=1∨nu=2∨nu=3))(hv:(nv=1∨nv=2∨nv=3))(hA:A=(6*a).tdiv nu)(hB:B=(6*b).tdiv nv):(h*(A+B)).tdiv (6*p)=(h*(a*nv+b*nu)).tdiv (nu*nv*p):=by
  have key:∀ {c m:Int},(m=1∨m=2∨m=3)→(6*c).tdiv m*m=6*c:=fun {c m} hm=>Int.tdiv_mul_cancel (by rcases hm with rfl | rfl | rfl <;> exact Int.dvd_trans (by decide) (Int.dvd_mul_right 6 c))
  have e1:A*nu=6*a:=by rw[hA];exact key hu
  have e2:B*nv=6*b:=by rw[hB];exact key hv
  have hnn:0<nu*nv:=Int.mul_pos (by omega) (by omega)
  rw[← Int.mul_tdiv_mul_of_pos (h*(A+B)) (6*p) hnn,← Int.mul_tdiv_mul_of_pos (h*(a*nv+b*nu)) (nu*nv*p) (show (0:Int)<6 by omega)]
  have e3:nu*nv*(h*(A+B))=6*(h*(a*nv+b*nu)):=by
    have:nu*nv*(h*(A+B))=h*(nv*(A*nu)+nu*(B*nv)):=by
      simp only[Int.mul_add,Int.mul_comm,Int.mul_left_comm,Int.mul_assoc]
    rw[this,e1,e2]
    simp only[Int.mul_add,Int.add_mul,Int.mul_comm,Int.mul_left_comm,Int.mul_assoc]
  have e4:nu*nv*(6*p)=6*(nu*nv*p):=by simp only[Int.mul_comm,Int.mul_left_comm,Int.mul_assoc]
  rw[e3,e4]
def Fx (n:Int)(d:List Int)(kv:List ((List Int × List Int) × Int)):Prop:=∀ x y v,BP (x,y) kv=some v→v=nF n d x y
theorem Fx.nil:Fx n d []:=fun x y v h=>by cases h
theorem Fx.get {kv:List ((List Int × List Int) × Int)}(h:Fx n d kv){x y:List Int}(hs:(BP (x,y) kv).isSome=true):(BP (x,y) kv).getD 0=nF n d x y:=by
  obtain⟨v,hv⟩:=Option.isSome_iff_exists.1 hs
  rw[hv]
  exact h x y v hv
theorem Fx.up {kv:List ((List Int × List Int) × Int)}(h:Fx n d kv){x y:List Int}{v:Int}(hv:v=nF n d x y):Fx n d (Hx (x,y) v kv):=fun x' y' v' h'=>by
  rw[H3] at h'
  split at h'
  · rename_i e
    cases e
    cases h'
    exact hv
  · exact h x' y' v' h'
def Fv (n:Int)(d:List Int)(ds:List Bool)(vs:List Int):Prop:=ds.length=(rSt n d).length*(rSt n d).length∧vs.length=(rSt n d).length*(rSt n d).length ∧
  ∀ i j,i<(rSt n d).length→j<(rSt n d).length→ds.getD (i*(rSt n d).length+j) false=true→vs.getD (i*(rSt n d).length+j) 0=nF n d ((rSt n d).getD i []) ((rSt n d).getD j [])
theorem Fv.new {m:Nat}(hm:m=(rSt n d).length*(rSt n d).length):Fv n d (List.replicate m false) (List.replicate m 0):=⟨by simp[hm],by simp[hm],fun i j _ _ h=>by
  rw[List.getD_eq_getElem?_getD,List.getElem?_replicate] at h
  split at h <;> cases h⟩
theorem Nh {m i j:Nat}(hi:i<m)(hj:j<m):i*m+j<m*m:=by
  have:(i+1)*m≤m*m:=Nat.mul_le_mul_right m hi
  rw[Nat.succ_mul] at this
  omega
theorem Kb {m i j i' j':Nat}(hj:j<m)(hj':j'<m)(h:i*m+j=i'*m+j'):i=i'∧j=j':=by
  have hi:i=i':=by
    have e1:(i*m+j) / m=i:=by rw[Nat.mul_comm,Nat.mul_add_div (by omega),Nat.div_eq_of_lt hj];omega
    have e2:(i'*m+j') / m=i':=by rw[Nat.mul_comm,Nat.mul_add_div (by omega),Nat.div_eq_of_lt hj'];omega
    rw[← e1,h,e2]
  subst hi
  exact⟨rfl,by omega⟩
theorem Fv.set {ds:List Bool}{vs:List Int}(h:Fv n d ds vs){i j:Nat}(hi:i<(rSt n d).length)(hj:j<(rSt n d).length){v:Int}(hv:v=nF n d ((rSt n d).getD i []) ((rSt n d).getD j [])):Fv n d (ds.set (i*(rSt n d).length+j) true) (vs.set (i*(rSt n d).length+j) v):=by
  obtain⟨h1,h2,h3⟩:=h
  refine⟨by rw[List.length_set];exact h1,by rw[List.length_set];exact h2,fun i' j' hi' hj' h'=>?_⟩
  by_cases e:i*(rSt n d).length+j=i'*(rSt n d).length+j'
  · obtain⟨rfl,rfl⟩:=Kb hj hj' e
    have:=Nh hi hj
    rw[← hv]
    simp[List.getD,show i*(rSt n d).length+j<vs.length by omega]
  · have e1:(ds.set (i*(rSt n d).length+j) true).getD (i'*(rSt n d).length+j') false=ds.getD (i'*(rSt n d).length+j') false:=by simp[List.getD,List.getElem?_set_ne e]
    have e2:(vs.set (i*(rSt n d).length+j) v).getD (i'*(rSt n d).length+j') 0=vs.getD (i'*(rSt n d).length+j') 0:=by simp[List.getD,List.getElem?_set_ne e]
    rw[e2]
    exact h3 i' j' hi' hj' (e1.symm.trans h')
theorem DQ {L:List (List Int)}{x:List Int}(hx:x∈L):(plF L x).toNat<L.length∧L.getD (plF L x).toNat []=x∧0≤plF L x:=by
  have h0:=N2 (AG.2 hx)
  unfold plF Hs at h0 ⊢
  split at h0
  · rename_i i hi
    obtain⟨h1,h2,_⟩:=List.findIdx?_eq_some_iff_getElem.1 hi
    have e:L.getD i []=L[i]:=by simp[List.getD,h1]
    refine⟨by simpa using h1,?_,by simp⟩
    rw[show ((i:Nat):Int).toNat=i by omega,e]
    exact(of_decide_eq_true (by simpa [CL] using h2):x=L[i]).symm
  · omega
def Xj (n:Int)(d:List Int)(p:Nat):List (List Int × Int):=(List.range p).foldl (fun l i=>Hx ((rSt n d).getD i []) (Dm n d ((rSt n d).getD i [])) l) []
theorem Oh (p:Nat):Xj n d (p+1)=Hx ((rSt n d).getD p []) (Dm n d ((rSt n d).getD p [])) (Xj n d p):=by rw[Xj,A6];rfl
def Lg (n:Int)(d:List Int):List (List Int × Int):=Xj n d (rSt n d).length
theorem Q2 (x:List Int):∀ p:Nat,p≤(rSt n d).length→BP x (Xj n d p)=if ((rSt n d).take p).contains x then some (Dm n d x) else none
  | 0,_=>by simp[Xj,BP]
  | p+1,hp=>by
    rw[Oh,H3,Q2 x p (by omega),BU (d:=[]) (by omega)]
    by_cases e:x=(rSt n d).getD p []
    · rw[if_pos e,if_pos (by simp[e]),← e]
    · rw[if_neg e]
      have e2:((rSt n d).take p++[(rSt n d).getD p []]).contains x=((rSt n d).take p).contains x:=by
        rw[Bool.eq_iff_iff]
        simp only[List.contains_iff_mem,List.mem_append,List.mem_singleton]
        exact⟨fun h=>h.resolve_right e,.inl⟩
      rw[e2]
theorem Q4 (hS:(Ax n d).isSome=true){x:List Int}(hx:x∈rSt n d):(BP x (Lg n d)).getD 0=hn n d x:=by
  rw[Lg,Q2 x _ (Nat.le_refl _),List.take_length,if_pos (AG.2 hx),← Fz hS (Au hx)]
  rfl
end
end Go.Proofs.YtbmnnbglipkidaaGreatDoor
