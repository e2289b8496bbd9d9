/-
  From a contract of a call's world to one in the words of XSep; and back, at the top.
-/
import Derived.Test.YtbmnnbglipkidaaGreatDoorPlain
namespace Go.Proofs.YtbmnnbglipkidaaGreatDoor
set_option linter.unusedVariables false
set_option linter.unusedSimpArgs false
open Go.RowKit
section
variable {P:Program}{f:FuncId}{vs:List Value}{W:World}{own:List Asn}
theorem Spec.same {v:Value}(h:∀ w,St W w own→Calls P f vs.toArray w fun e w'=>e = .returned v∧w=w'):Spec P f vs W own fun u ow=>u=v∧ow=own :=
  fun w hs=>(h w hs).mono fun _ _ ⟨he,hw⟩=>⟨v,own,he,⟨rfl,rfl⟩,hw ▸ hs⟩
theorem Spec.below {v:Value}(h:∀ w,St W w own→Calls P f vs.toArray w fun e w'=>e = .returned v∧Below w.heap.size w w'):Spec P f vs W own fun u ow=>u=v∧ow=own :=
  fun w hs=>(h w hs).mono fun _ _ ⟨he,hw⟩=>⟨v,own,he,⟨rfl,rfl⟩,hs.below hw⟩
theorem Spec.drewN {v:Value}(h:∀ w,St W w own→Calls P f vs.toArray w fun e w'=>e = .returned v∧∃ n,w'=w.drewN n):Spec P f vs W own fun u ow=>u=v∧ow=own :=
  fun w hs=>(h w hs).mono fun _ _ ⟨he,n,hw⟩=>⟨v,own,he,⟨rfl,rfl⟩,by subst hw;exact hs.below (below_drewN (Below.refl _ _) n)⟩
def frozen (W0:World):Asn where
  p F w:=(∀ g,F g↔g<W0.heap.size)∧∀ g,g<W0.heap.size→w.heap[g]?=W0.heap[g]?
  loc h hw:=⟨h.1,fun g hg=>(hw g ((h.1 g).2 hg)).trans (h.2 g hg)⟩
theorem A4 {W W0 w:World}(h:St W w [frozen W0]):W0.heap.size≤w.heap.size∧∀ g,g<W0.heap.size→w.heap[g]?=W0.heap[g]?:=by
  obtain⟨_,_,_,F,hF,F1,F2,e1,_,⟨g1,g2⟩,_⟩:=h
  refine⟨?_,g2⟩
  rcases Nat.eq_zero_or_pos W0.heap.size with h0 | h0
  · omega
  · have:=hF (W0.heap.size - 1) ((e1 _).2 (.inl ((g1 _).2 (by omega))))
    omega
theorem frozen_below {W0 w:World}(h:St W0 w [frozen W0]):Below W0.heap.size W0 w:=⟨h.os,h.tape,h.output,(A4 h).1,(A4 h).2⟩
theorem Pt {W0:World}{v:Value}{n sz:Nat}{cs:List Value}(h:Sl W0 v n sz cs):Ent [frozen W0] fun w=>Sl w v n sz cs:=fun _ _ hs =>
  h.same (A4 hs).1 fun _ k _ hk=>(A4 hs).2 k hk
theorem ent_ints {W0:World}{v:Value}{xs:List Int}(h:Ints W0 v xs):Ent [frozen W0] fun w=>Ints w v xs:=Pt h
theorem frozen_self (w:World):St w w [frozen w] :=
  ⟨rfl,rfl,rfl,fun g=>g<w.heap.size,fun _ h=>h,fun g=>g<w.heap.size,fun _=>False,fun g=>by simp,fun _ _ h=>h,⟨fun _=>Iff.rfl,fun _ _=>rfl⟩,fun _ h=>h⟩
theorem Spec.top {K:Value→List Asn→Prop}{w:World}(h:Spec P f vs w [frozen w] K)(hK:∀ v ow,K v ow→ow = [frozen w]):Calls P f vs.toArray w fun e w'=>∃ v,e = .returned v∧(∃ ow,K v ow)∧Below w.heap.size w w' :=
  (h w (frozen_self w)).mono fun _ _ ⟨v,own',he,hk,hs⟩=>⟨v,he,⟨own',hk⟩,by
    rw[hK v own' hk] at hs
    exact frozen_below hs⟩
end
def BZ (n lo hi:Int):Bool:=decide (lo≤n)&&decide (n≤hi)
theorem AX {n lo hi:Int}(h:BZ n lo hi=true):lo≤n∧n≤hi:=by simpa [BZ] using h
theorem Mk {n lo hi:Int}(h:BZ n lo hi=false):n<lo∨hi<n:=by simp[BZ] at h;omega
theorem inB_of {n lo hi:Int}(h:lo≤n)(h':n≤hi):BZ n lo hi=true:=by simp[BZ,h,h']
theorem QN {n lo hi:Int}(h : ¬ (lo≤n∧n≤hi)):BZ n lo hi=false:=by simp[BZ];omega
def atI (n:Int)(d:List Int)(i j:Int):Int:=d.getD (i*n+j).toNat 0
def rk (k:Nat):Nat:=([1,2,3,4,2,3,4,3,4,4,4,2]:List Nat).getD k 0
def oneD (k:Nat):List Int:=([[2],[2,-1,-1,2],[2,-1,0,-1,2,-1,0,-1,2],[2,-1,0,0,-1,2,-1,0,0,-1,2,-1,0,0,-1,2],[2,-1,-2,2],[2,-1,0,-1,2,-1,0,-2,2],[2,-1,0,0,-1,2,-1,0,0,-1,2,-1,0,0,-2,2],[2,-1,0,-1,2,-2,0,-1,2],[2,-1,0,0,-1,2,-1,0,0,-1,2,-2,0,0,-1,2],[2,-1,0,0,-1,2,-1,-1,0,-1,2,0,0,-1,0,2],[2,-1,0,0,-1,2,-1,0,0,-2,2,-1,0,0,-1,2],[2,-3,-1,2]]:List (List Int)).getD k []
def digits:Nat→Nat→List Int
  | 0,_=>[]
  | m+1,x=>(((x%8:Nat):Int) - 3)::digits m (x / 8)
def ZX:Nat→List Nat
  | 1=>[5]
  | 2=>[2781,2709,2645,2701,2693,2581]
  | 3=>[91084509,88954589,90822301,91083989,86857437,88921821,
   90560157,91083477,90822237,91083981,88889053,84760285,
   90822173,91083973,90298013,91082965,88954069,88692381,
   90821781,86856917,88659613,90559637,90821269,88692317,
   88954061,88921301,86595229,90821717,90821773,88430237,
   88953557]
  | 4=>[191003024602845,186596388157149,190453266691805,191002890122973,190934305125597,191003007825565,
   191003024598741,182198341646045,186587798222557,189903510877917,191002755905245,190453264594653,
   191002889860829,190865585648861,191002991048349,191003024594645,190934305125085,191003007825501,
   191003024598733,186579208287965,177800295134941,190453262497501,191002889598685,189353755064029,
   191002621687517,190934305124573,191003007825437,191003024598725,190796866172125,191002974271133,
   191003024590549,186596253677277,186046630246109,190453132211933,186596371379869,186527668679901,
   190453266687701,191002890118869,190384547214557,191002873345693,190934288348317,190934305121493,
   191003007821461,182198207166173,186038040311517,189903376398045,190452997994205,186046628148957,
   186596253415133,182198324868765,186519078745309,189903510873813,191002755901141,190384545117405,
   191002873083549,190865568871581,190934271571101,190865585644757,191002991044245,190934305117397,
   191003007817365,186527668679389,186596371379805,190384547214045,191002873345629,190453266687693,
   191002890118861,186587663742685,181648583735005,190453130114781,190453131949789,185496874432221,
   186596119459549,186587781445277,182129622168797,190453264590549,191002889856725,189834791400669,
   191002739127965,190934288347805,190934288348253,190934305120981,191003007821397,190934305121485,
   191003007821453,186458949203165,186596354602653,190315827737821,191002856568477,190453266683605,
   191002890114773,186596388153045,190453249914525,190934170645725,182198341641941,186587798218453,
   189903494100637,190934036427997,190453247817373,190934170383581,190865451168989,190453233137309,
   186596388148949,190934170645213,190453249914461,186596388153037,186579208283861,177800295130837,
   190453245720221,190934170121437,189353738286749,190933902210269,190934170644701,190453249914397,
   186596388153029,190796731692253,190453216360093,186596388144853,186596253673173,186046630242005,
   190453115434653,190384412734685,186046613468829,186527534200029,186596371375765,186527668675797,
   190453249910421,190934170641621,190384530437277,190934153868445,182198341637845,186587798214357,
   189903477323421,190865316951261,190453231040157,190865450906845,182198341641933,186587798218445,
   189903494100573,190934036427485,190453247817309,190934170383069,186579208279765,177800295126741,
   190453228943005,190865450644701,189353721509533,190865182733533,186579208283853,177800295130829,
   190453245720157,190934170120925,189353738286685,190933902209757,190934036426973,189903494100509,
   190934170382557,190453247817245,182198341641925,186587798218437,190796597474525,189903460546205,
   190796731430109,190453214262941,182198341633749,186587798210261,182198207162069,186038040307413,
   189903359620765,190384278516957,186046611371677,186527533937885,182198324864661,186519078741205,
   189903494096533,190934036423893,190384528340125,190934153606301,190865434391709,190384513660061,
   190865451164885,190453233133205,186527668671701,186596371371669,186527534199517,186046613468765,
   190384412734173,190453115434589,186046630241997,186596253673165,186587663738581,181648583730901,
   190453113337501,190384412472541,185496857654941,186527399982301,186587781441173,182129622164693,
   190453247813269,190934170379477,189834774623389,190934019650717,190934153867933,190384530437213,
   190934170641109,190453249910357,186527668675789,186596371375757,186458814723293,186046596691613,
   190315693257949,190453098657437,186046630237909,186596253669077,190453132207829,186596236899997,
   185977910768861,190934288344213,186596119455445,185496874428117,190453115172509,190384410637533,
   181648566957725,186518944265437,186596354598549,186458949199061,190453249906325,190934170637525,
   190315810960541,190934137091229,190934153868381,190384530436765,190934170641613,190453249910413,
   186527668675285,186596371375701,182129487688925,186038023534237,189834656920797,190452981216925,
   186046628144853,186596253411029,186579208283845,177800295130821,190453245720093,190934170120413,
   189353738286621,190933902209245,186579208275669,177800295122645,190453212165789,190796731167965,
   189353704732317,190796463256797]
  | _=>[]
def Bt (n:Nat):List (List Int):=(ZX n).map (digits (n*n))
def enc8:List Int→Nat
  | []=>0
  | x::t=>(x+3).toNat+8*enc8 t
def fW (n:Nat)(d:List Int):Bool:=(ZX n).contains (enc8 d)&&(d.length==n*n&&d.all fun x=>decide (-3≤x)&&decide (x≤4))
theorem He:∀ d:List Int,(∀ x∈d, -3≤x∧x≤4)→digits d.length (enc8 d)=d
  | [],_=>rfl
  | x::t,h=>by
    have hx:=h x (by simp)
    have e1:(enc8 (x::t))%8=(x+3).toNat:=by simp only[enc8];omega
    have e2:(enc8 (x::t)) / 8=enc8 t:=by simp only[enc8];omega
    simp only[List.length_cons,digits,e1,e2]
    rw[He t fun y hy=>h y (by simp[hy])]
    congr 1
    omega
theorem Qo {n:Nat}{d:List Int}(h:fW n d=true):d∈Bt n:=by
  simp only[fW,Bool.and_eq_true,beq_iff_eq,List.all_eq_true,decide_eq_true_eq] at h
  obtain⟨h1,h2,h3⟩:=h
  have:=He d h3
  rw[h2] at this
  refine List.mem_map.2 ⟨enc8 d,by simpa using h1,this⟩
def typesF:Nat→Nat→Nat→List (List Nat)
  | 0,_,_=>[]
  | f+1,r,a=>if r=0 then[[]] else(List.range' a (12 - a)).flatMap fun i=>if r<rk i then[] else(typesF f (r - rk i) i).map (i :: ·)
def aV (n1:Int)(d1:List Int)(n2:Int)(d2:List Int):List Int :=
  (List.range n2.toNat).foldl (fun(o:List Int) (i:Nat)=>(List.range n2.toNat).foldl (fun(o:List Int) (j:Nat)=>o.set ((n1+(i:Int))*(n1+n2)+n1+(j:Int)).toNat (atI n2 d2 i j)) o)
    ((List.range n1.toNat).foldl (fun(o:List Int) (i:Nat)=>(List.range n1.toNat).foldl (fun(o:List Int) (j:Nat)=>o.set ((i:Int)*(n1+n2)+(j:Int)).toNat (atI n1 d1 i j)) o) (List.replicate ((n1+n2)*(n1+n2)).toNat 0))
def rkS (ks:List Nat):Nat:=(ks.map rk).foldl (· + ·) 0
def Gs (s:Int × List Int)(k:Nat):Int × List Int:=(s.1+rk k,aV s.1 s.2 (rk k) (oneD k))
def C3 (ks:List Nat):Int × List Int:=ks.foldl Gs (0,[])
def UJ (n:Int)(c:List Int)(m:Int)(due rows:List Int)(i k:Int):Nat→Bool:=fun t =>
  (List.range t).foldl (fun b j=>b&&(atI n c i (rows.getD j 0)==atI m due k j&&atI n c (rows.getD j 0) i==atI m due j k)) true
def BK (n:Int)(c due:List Int):Nat→List Int→Bool
  | 0,_=>false
  | f+1,rows=>if (rows.length:Int)=n then true else
    (List.range n.toNat).any fun i=>(!(rows.contains (i:Int))&&atI n c i i==atI n due rows.length rows.length)&&(UJ n c n due rows i rows.length rows.length&&BK n c due f (rows++[(i:Int)]))
def Up (n:Int)(c:List Int)(m:Int)(want next:List Int)(k:Nat):Nat→Bool:=fun t =>
  (List.range t).foldl (fun b j=>b&&(atI n c (next.getD k 0) (next.getD j 0)==atI m want k j&&atI n c (next.getD j 0) (next.getD k 0)==atI m want j k)) true
def CH (n:Int)(c rows:List Int)(m:Int)(want:List Int):Nat→List Int→Bool
  | 0,_=>false
  | f+1,used=>if used.length=rows.length then true else
    (List.range rows.length).any fun i => !(used.contains (rows.getD i 0))&&(Up n c m want (used++[rows.getD i 0]) used.length (used.length+1)&&CH n c rows m want f (used++[rows.getD i 0]))
def Rv (n:Int)(d:List Int):Bool:=BZ n 1 4&&decide ((d.length:Int)=n*n)
def S7 (n:Int)(d:List Int):Option (List Nat):=if Rv n d then(typesF 5 n.toNat 0).find? fun ks=>BK n d (C3 ks).2 5 [] else none
def G9 (n:Int)(d:List Int)(i:Nat):Bool := !(BZ (d.getD i 0) (-3) 2) || (d.getD i 0 != 0&&atI n d ((i:Int).tmod n) ((i:Int).tdiv n)==0)
def DA (n:Int)(d:List Int)(k:Nat)(o:List Int):List Int:=(List.range n.toNat).foldl (fun(o:List Int) (j:Nat)=>if atI n d (o.getD k 0) j != 0 && !(o.contains (j:Int)) then o++[(j:Int)] else o) o
def Fy (n:Int)(d:List Int):Nat→List Int→Nat→List Int
  | 0,o,_=>o
  | f+1,o,k=>if k<o.length then Fy n d f (DA n d k o) (k+1) else o
def partF (n:Int)(d:List Int)(i:Int):List Int:=Fy n d (n.toNat+1) [i] 0
def C5 (n:Int)(d rows:List Int)(m:Nat):Option Nat:=(List.range m).foldl (fun f k=>if rk k==rows.length&&CH n d rows (rk k) (oneD k) 5 [] then some k else f) none
def EA (l:List Nat)(k:Nat):Nat→Nat
  | 0=>0
  | a+1=>if k<l.getD a 0 then EA l k a else a+1
def Lo (l:List Nat)(k:Nat):List Nat:=l.take (EA l k l.length)++[k]++l.drop (EA l k l.length)
def Cx (n:Int)(d:List Int)(st:Option (List Nat × List Int))(i:Nat):Option (List Nat × List Int):=st.bind fun s =>
  if s.2.contains (i:Int) then some s else(C5 n d (partF n d i) 12).map fun k=>(Lo s.1 k,s.2++partF n d i)
def BW (n:Int)(d:List Int)(m:Nat):Option (List Nat × List Int):=(List.range m).foldl (Cx n d) (some ([],[]))
def Ax (n:Int)(d:List Int):Option (List Nat):=if Rv n d then(if (List.range d.length).any (G9 n d) then none else(BW n d n.toNat).map (·.1)) else none
def idx (x:Int):List Int→Nat
  | []=>0
  | y::t=>if y=x then 0 else idx x t+1
def Tc:List (List Int × List Int)→Int→Int→Int
  | [],_,_=>0
  | (p,D)::t,a,b=>if p.contains a then(if p.contains b then atI p.length D (idx a p) (idx b p) else 0) else Tc t a b
def cZ (n:Nat)(bl:List (List Int × List Int)):List Int:=(List.range (n*n)).map fun i=>Tc bl ((i / n:Nat):Int) ((i%n:Nat):Int)
def DK:Nat→List Int→List (List Int)
  | 0,_=>[[]]
  | m+1,R=>R.flatMap fun x=>(DK m (R.filter (· != x))).map (x :: ·)
def B1:List (List Int)→List (List (List Int × List Int))
  | []=>[[]]
  | R::Rs=>(DK R.length R).flatMap fun p=>((List.range 12).filter (rk · == R.length)).flatMap fun k=>(B1 Rs).map ((p,oneD k) :: ·)
def NF (n:Nat):List Int:=(List.range n).map Int.ofNat
end Go.Proofs.YtbmnnbglipkidaaGreatDoor
