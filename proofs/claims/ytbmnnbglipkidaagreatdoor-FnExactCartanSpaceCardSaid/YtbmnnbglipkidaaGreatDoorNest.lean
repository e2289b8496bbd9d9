/-
  Lists of lists that share their lists with others: parts of them, what they hold, other orders; and the plain steps of putting roots in order.
-/
import Derived.Test.YtbmnnbglipkidaaGreatDoorZ17
import Derived.Test.YtbmnnbglipkidaaGreatDoorRts
import Derived.Test.YtbmnnbglipkidaaGreatDoorMap
namespace Go.Proofs.YtbmnnbglipkidaaGreatDoor
set_option linter.unusedVariables false
set_option linter.unusedSimpArgs false
open Go.RowKit
section
variable {P:Program}{n:Nat}{env:List (Nat × Value)}{W:World}{own:List Asn}
theorem Ent.len {v:Value}{m k sz:Nat}{cs:List Value}(h:Ent own fun w=>Sl w v m sz cs)(e:m=k):Ent own fun w=>Sl w v k sz cs:=e ▸ h
theorem Ent.subLst {v:Value}{us:List Value}{l h:Nat}(hv:Ent own fun w=>Sl w v us.length 1 us)(hb:l≤h∧h≤us.length):Ent own fun w=>Sl w (subV 1 v l h) ((us.drop l).take (h - l)).length 1 ((us.drop l).take (h - l)):=fun W w hs=>by
  have:=Sl.sub (hv W w hs) hb
  have hl:((us.drop l).take (h - l)).length=h - l:=by simp;omega
  rw[hl]
  simpa using this
theorem AllS.part {us:List Value}(h:AllS us)(l m:Nat):AllS ((us.drop l).take m):=fun u hu=>h u (List.mem_of_mem_drop (List.mem_of_mem_take hu))
theorem AllS.app {us vs:List Value}(h:AllS us)(k:AllS vs):AllS (us++vs):=fun u hu=>by
  rcases List.mem_append.1 hu with hu | hu
  · exact h u hu
  · exact k u hu
theorem zip_get {us:List Value}{xs:List (List Int)}{k:Nat}(h1:k<us.length)(h2:k<xs.length):(us.getD k undef,xs.getD k [])∈us.zip xs:=by
  have e:(us.getD k undef,xs.getD k [])=(us.zip xs)[k]'(by simp;omega):=by simp[List.getD,h1,h2]
  rw[e]
  exact List.getElem_mem _
theorem zip_mem {us:List Value}{xs:List (List Int)}{q:Value × List Int}(h:q∈us.zip xs):∃ k,k<us.length∧k<xs.length∧us.getD k undef=q.1∧xs.getD k []=q.2:=by
  obtain⟨k,hk,e⟩:=List.mem_iff_getElem.1 h
  simp only[List.length_zip] at hk
  refine⟨k,by omega,by omega,?_,?_⟩
  · rw[← e]
    simp[List.getD,show k<us.length by omega]
  · rw[← e]
    simp[List.getD,show k<xs.length by omega]
theorem Ent.manyZip {us vs:List Value}{xs ys:List (List Int)}{i k e:Nat}(h:own[i]?=some (Proofs.YtbmnnbglipkidaaGreatDoor.many (Proofs.YtbmnnbglipkidaaGreatDoor.ints e) us xs))(hz:∀ q∈vs.zip ys,q∈us.zip xs)(hk:k<vs.length∧k<ys.length):Ent own fun w=>Ints w (vs.getD k undef) (ys.getD k []):=by
  obtain⟨j,h1,h2,h3,h4⟩:=zip_mem (hz _ (zip_get hk.1 hk.2))
  simp only at h3 h4
  rw[← h3,← h4]
  exact Ent.manyInts h ⟨h1,h2⟩
theorem zipWith_zip {α:Type}(A:Value→α→Asn):∀ (vs:List Value) (xs:List α),List.zipWith A vs xs=(vs.zip xs).map fun p=>A p.1 p.2
  | [],_=>rfl
  | _::_,[]=>rfl
  | v::vs,x::xs=>by simp[zipWith_zip A vs xs]
theorem St.manyPerm {w:World}{α:Type}{A:Value→α→Asn}{vs us:List Value}{xs ys:List α}(h:St W w (many A vs xs::own))(hp:(vs.zip xs).Perm (us.zip ys)):St W w (many A us ys::own):=by
  refine St.pack ?_
  have h1:=St.unpack h
  rw[zipWith_zip] at h1 ⊢
  exact h1.perm ((hp.map _).append_right _)
theorem GE.manyPerm {α:Type}{A:Value→α→Asn}{vs us:List Value}{xs ys:List α}(hp:(vs.zip xs).Perm (us.zip ys)){e:Exit}{Q:Exit→Act→World→Prop}(h:GE e Q n env W (many A us ys::own)):GE e Q n env W (many A vs xs::own):=fun a w hf hs=>h a w hf (hs.manyPerm hp)
end
theorem rInsAt_yes {x:List Int}{L:List (List Int)}{a:Nat}(ha:0<a)(h:lsB x (L.getD (a - 1) [])=true):rInsAt x L a=rInsAt x L (a - 1):=by
  obtain⟨b,rfl⟩:∃ b,a=b+1:=⟨a - 1,by omega⟩
  rw[Nat.add_sub_cancel] at h ⊢
  rw[rInsAt,if_pos h]
theorem rInsAt_no {x:List Int}{L:List (List Int)}{a:Nat}(ha:0<a)(h:lsB x (L.getD (a - 1) [])=false):rInsAt x L a=a:=by
  obtain⟨b,rfl⟩:∃ b,a=b+1:=⟨a - 1,by omega⟩
  rw[Nat.add_sub_cancel] at h
  rw[rInsAt,h]
  rfl
theorem takeD_snoc {α:Type}{L:List α}{p:Nat}{d:α}(hp:p<L.length):L.take (p+1)=L.take p++[L.getD p d]:=by
  rw[List.take_succ_eq_append_getElem hp]
  simp[List.getD,hp]
theorem ins_perm {us vs:List Value}{fs os:List (List Int)}{p a:Nat}(hul:us.length=fs.length)(hp:p<fs.length)(hvl:vs.length=os.length)(h:((us.zip fs).take p).Perm (vs.zip os))(ha:a≤os.length) :
    ((us.zip fs).take (p+1)).Perm ((vs.take a++[us.getD p undef]++vs.drop a).zip (os.take a++[fs.getD p []]++os.drop a)):=by
  have e1:(us.zip fs).take (p+1)=(us.zip fs).take p++[(us.getD p undef,fs.getD p [])]:=by
    rw[takeD_snoc (d:=(undef,[])) (by simp;omega)]
    congr 2
    have hpu:p<us.length:=by omega
    rw[List.getD_eq_getElem?_getD,List.getElem?_eq_getElem (by simp;omega)]
    simp[List.getD,hp,hpu]
  have e2:(vs.take a++[us.getD p undef]++vs.drop a).zip (os.take a++[fs.getD p []]++os.drop a)=(vs.zip os).take a++[(us.getD p undef,fs.getD p [])]++(vs.zip os).drop a:=by
    rw[List.zip_append (by simp;omega),List.zip_append (by simp;omega)]
    simp only[List.zip,List.take_zipWith,List.drop_zipWith]
    rfl
  rw[e1,e2]
  have h2:(vs.zip os).Perm ((vs.zip os).take a++(vs.zip os).drop a):=by rw[List.take_append_drop]
  refine((h.trans h2).append_right _).trans ?_
  rw[List.append_assoc,List.append_assoc]
  exact List.Perm.append_left _ List.perm_append_comm
theorem ord_next {fs os:List (List Int)}{p a:Nat}(hp:p<fs.length)(hos:os=(fs.take p).foldl rIns [])(ha:rInsAt (fs.getD p []) os os.length=a):os.take a++[fs.getD p []]++os.drop a=(fs.take (p+1)).foldl rIns []:=by
  rw[takeD_snoc (d:=[]) hp,List.foldl_append,← hos]
  show _=rIns os (fs.getD p [])
  rw[rIns,ha]
theorem ord_len {fs:List (List Int)}:∀ (p:Nat),p≤fs.length→((fs.take p).foldl rIns []).length=p
  | 0,_=>by simp
  | p+1,h=>by
    rw[takeD_snoc (d:=[]) (by omega),List.foldl_append]
    simp only[List.foldl_cons,List.foldl_nil]
    rw[rIns_len,ord_len p (by omega)]
theorem ord_end {n:Int}{d:List Int}{fs os:List (List Int)}{p:Nat}(hf:fs=rFd n d)(hos:os=(fs.take p).foldl rIns [])(hp:fs.length≤p):os=rSt n d:=by
  rw[hos,List.take_of_length_le hp,hf]
  rfl
theorem ord_mem {us vs:List Value}{fs os:List (List Int)}{p j:Nat}(hvl:vs.length=os.length)(h:((us.zip fs).take p).Perm (vs.zip os))(hj:j<os.length):∃ k,k<fs.length∧os.getD j []=fs.getD k []:=by
  obtain⟨k,h1,h2,h3,h4⟩:=zip_mem (List.mem_of_mem_take (h.mem_iff.2 (zip_get (by omega) hj)))
  exact⟨k,h2,h4.symm⟩
theorem ord_sub {us vs:List Value}{fs os:List (List Int)}{p:Nat}(h:((us.zip fs).take p).Perm (vs.zip os)):∀ q∈vs.zip os,q∈us.zip fs:=fun q hq=>List.mem_of_mem_take (h.mem_iff.2 hq)
theorem ord_all {us vs:List Value}{fs os:List (List Int)}{p:Nat}(hul:us.length=fs.length)(hp:fs.length≤p)(h:((us.zip fs).take p).Perm (vs.zip os)):(us.zip fs).Perm (vs.zip os):=by
  rwa [List.take_of_length_le (by simp;omega)] at h
theorem rOne_yes {n:Int}{d x y:List Int}{L:List (List Int)}{i:Nat}(e:y=rStep n d x i)(h1:posL y=true)(h2:plF L y<0):L++[y]=rOne n d x L i:=by
  have h3:(!(L.contains y))=true:=by rw[← plF_no];exact decide_eq_true h2
  rw[rOne,← e,h1,h3]
  rfl
theorem rOne_no1 {n:Int}{d x y:List Int}{L:List (List Int)}{i:Nat}(e:y=rStep n d x i)(h1:posL y=false):L=rOne n d x L i:=by
  rw[rOne,← e,h1]
  rfl
theorem rOne_no2 {n:Int}{d x y:List Int}{L:List (List Int)}{i:Nat}(e:y=rStep n d x i)(h2 : ¬ plF L y<0):L=rOne n d x L i:=by
  have h3:(!(L.contains y))=false:=by rw[← plF_no];exact decide_eq_false h2
  rw[rOne,← e,h3,Bool.and_false]
  rfl
theorem unitL_set {m i:Nat}(h:i<m):(List.replicate m (0:Int)).set i 1=unitL m i:=by
  refine ext_getD (by simp[unitL]) fun k hk=>?_
  have hk':k<m:=by simpa using hk
  have hu:(unitL m i).getD k 0=if k=i then 1 else 0:=by simp[unitL,List.getD,hk']
  rw[hu]
  by_cases e:k=i
  · subst e
    rw[set_getD_eq (by simpa using hk'),if_pos rfl]
  · rw[set_getD_ne (fun h=>e h.symm),if_neg e]
    simp[List.getD,hk']
theorem units_next {m i:Nat}:(List.range i).map (unitL m)++[unitL m i]=(List.range (i+1)).map (unitL m):=by rw[List.range_succ,List.map_append];rfl
theorem unitL_len (m i:Nat):(unitL m i).length=m:=by simp[unitL]
theorem RtOk.first {n:Int}{d:List Int}(h:RtOk n d){i:Nat}(hi:n.toNat≤i)(hi2:i≤n.toNat):rC n d 40 ((List.range i).map (unitL n.toNat)) 0=some (rFd n d):=by
  have e:i=n.toNat:=by omega
  subst e
  exact h.run
theorem RtOk.inner {n:Int}{d:List Int}(h:RtOk n d){fs gs:List (List Int)}{k i:Nat}(hpre:∀ i,i≤n.toNat→Pre ((List.range i).foldl (rOne n d (fs.getD k [])) fs) (rFd n d))(hk:k<fs.length)(hi:i≤n.toNat)(hg:gs=(List.range i).foldl (rOne n d (fs.getD k [])) fs) :
    k<gs.length∧gs.getD k []=fs.getD k []∧gs.length≤30∧(gs.getD k []).length=n.toNat∧(∀ j,0≤(gs.getD k []).getD j 0∧(gs.getD k []).getD j 0≤10)∧(∀ j,j<gs.length→(gs.getD j []).length=n.toNat):=by
  have h1:Pre gs (rFd n d):=by rw[hg];exact hpre i hi
  have h2:Pre fs gs:=by rw[hg];exact rIn_pre (i:=0) (Nat.zero_le _)
  have h3:=h2.len
  have h4:=h.fget h1 (show k<gs.length by omega)
  exact⟨by omega,h2.get hk,Nat.le_trans h1.len h.few,h4.1,h4.2,fun j hj=>(h.fget h1 hj).1⟩
theorem RtOk.arI {n:Int}{d:List Int}(h:RtOk n d){x y:List Int}{i:Nat}(e:x=y)(hl:x.length=n.toNat)(hb:∀ j,0≤x.getD j 0∧x.getD j 0≤10)(hi:i<n.toNat):arI n d (i:Int) x=rStep n d y i:=by
  subst e
  exact arI_step h.mat (fun k _=>by have:=hb k;omega) hl h.rk (by simpa using hi)
end Go.Proofs.YtbmnnbglipkidaaGreatDoor
