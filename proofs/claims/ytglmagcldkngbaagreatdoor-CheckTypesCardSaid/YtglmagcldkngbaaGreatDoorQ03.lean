/- Part of the proof that CheckTypes answers true. -/
import Derived.Test.YtglmagcldkngbaaGreatDoorQ02
set_option linter.unusedVariables false
set_option linter.unusedSimpArgs false
set_option maxRecDepth 100000
set_option maxHeartbeats 4000000
namespace Go.Proofs.YtglmagcldkngbaaGreatDoor
open Go Go.Am
theorem cP {b c:Bool} (h:b=c) {g:FuncId} {args:List Value} {H:Z} (k:bF E g args H (.ret (.bool b)) H []):bF E g args H (.ret (.bool c)) H []:=h▸k
theorem eL {G:Z} {g:FuncId} {args:List Value} {H:Z} {V:List Nat} {b:Bool} (h:aV E G g args H V (fun v _=>v=.bool b)):aV E G g args H V (fun v _=>(v=aw∧b=true)∨(v=U∧b=false)):=h.mono fun v _ hv=>by
 cases b with
 |true=>exact .inl ⟨hv,rfl⟩
 |false=>exact .inr ⟨hv,rfl⟩
theorem drop_cons {α:Type} {l:List α} {i:Nat} {a:α} (h:l[i]?=some a):l.drop i=a::l.drop (i+1):=by
 have hi:=List.getElem?_eq_some_iff.1 h
 rw [List.drop_eq_getElem_cons hi.1,hi.2]
theorem gp {i:Int} (h:0≤i):(i+1).toNat=i.toNat+1:=J
def mW (ws:List ByteArray):List Value:=ws.map .string
def hasB (s:ByteArray):List ByteArray→Bool
 |[]=>false
 |w::ws=>(s.toList==w.toList)||hasB s ws
theorem sL {α:Type} {F:List α→Bool} {g:α→Bool} (h1:∀ a l,F (a::l)=(g a||F l)) {l:List α} {i:Nat} {a:α} {R:Bool} (h:l[i]?=some a) (hR:F (l.drop i)=R) (hg:g a=false):F (l.drop (i+1))=R:=by
 rw [drop_cons h,h1,hg] at hR;exact hR
theorem sK {α:Type} {F:List α→Bool} {g:α→Bool} (h1:∀ a l,F (a::l)=(g a||F l)) {l:List α} {i:Nat} {a:α} {R:Bool} (h:l[i]?=some a) (hR:F (l.drop i)=R) (hg:g a=true):R=true:=by
 rw [drop_cons h,h1,hg] at hR;exact hR.symm
theorem sJ {α:Type} {F:List α→Bool} (h0:F []=false) {l:List α} {i:Nat} {R:Bool} (hR:F (l.drop i)=R) (h:l.length≤i):R=false:=by
 rw [List.drop_of_length_le h,h0] at hR;exact hR.symm
theorem Lw {ws:List ByteArray} {i:Nat} (h:i<ws.length):∃ t,ws[i]?=some t∧(mW ws)[i]?=some (.string t):=
 ⟨ws[i],fU h,by rw [mW,List.getElem?_map,fU h];rfl⟩
def fe (c:Int) (l:List Int):Bool:=l.any fun d=>c==d
def tr (t:ByteArray) (c:Int):Bool:=fe c (t.data.toList.map fun b=>(b.toNat:Int))
def lL (s:ByteArray) (c:Int):Int:=match (List.range s.size).find? fun i=>s[i]! == c.toNat.toUInt8 with
 |some i=>goIx i
 |none=>-1
where goIx (i:Nat):Int:=i
theorem af7 {c:Int} (h0:0≤c) (h1:c<256):((c.toNat.toUInt8).toNat:Int)=c:=by
 have:c.toNat.toUInt8.toNat=c.toNat%256:=by simp [Nat.toUInt8]
 omega
theorem Ci {s:ByteArray} {c:Int} (h0:0≤c) (h1:c<256):decide (lL s c≥0)=tr s c:=by
 have hb:∀ i,i<s.size→s[i]! = s.data.toList[i]?.getD 0:=fun i hi=>by
  rw [getElem!_pos s i hi]
  have:i<s.data.toList.length:=by simpa using hi
  rw [fU this]
  simp [ByteArray.getElem_eq_getElem_data]
 have hc:=af7 h0 h1
 unfold lL
 split
 ·rename_i i hi
  have h2:=List.find?_some hi
  have h3:=List.mem_of_find?_eq_some hi
  rw [List.mem_range] at h3
  rw [show decide (lL.goIx i≥0)=true from decide_eq_true (by unfold lL.goIx;omega)]
  symm
  unfold tr fe
  rw [List.any_map,List.any_eq_true]
  have h4:i<s.data.toList.length:=by simpa using h3
  refine ⟨s.data.toList[i],List.getElem_mem h4,?_⟩
  have h5:=pr h2
  rw [hb i h3,fU h4] at h5
  simp only [Option.getD_some] at h5
  simp only [Function.comp,h5,beq_iff_eq]
  omega
 ·rename_i hn
  rw [show decide ((-1:Int)≥0)=false by decide]
  symm
  unfold tr fe
  rw [List.any_map,List.any_eq_false]
  intro b hm
  obtain ⟨i,hi,rfl⟩:=List.getElem_of_mem hm
  rw [List.find?_eq_none] at hn
  have h3:i<s.size:=by simpa using hi
  have h4:=hn i (List.mem_range.2 h3)
  rw [hb i h3,fU hi] at h4
  simp only [Option.getD_some,beq_iff_eq] at h4
  simp only [Function.comp,beq_iff_eq]
  intro h5
  apply h4
  have h6:(s.data.toList[i]).toNat=(c.toNat.toUInt8).toNat:=J
  exact UInt8.toNat_inj.1 h6
def eZ (c:Int):Bool:=(c==95)||((c==58)||((decide (c≥97)&&decide (c≤122))||(decide (c≥65)&&decide (c≤90))))
def hH (c:Int):Bool:=decide (c≥48)&&decide (c≤57)
def iG (c:Int):Bool:=eZ c||hH c
def hY (c:Int):Bool:=(c==95)||((decide (c≥97)&&decide (c≤122))||((decide (c≥65)&&decide (c≤90))||(decide (c≥48)&&decide (c≤57))))
def nQ (c:Int):Bool:=decide (lL ⟨#[32,9,10,13]⟩ c≥0)
def rr (c:Int):Bool:=c != 10
def gT (p:Int→Bool) (s:ByteArray) (i:Int):Int:=if h:i<s.size∧p (ad s i)=true then gT p s (i+1) else i
termination_by ((s.size:Int)-i).toNat
theorem oT {p:Int→Bool} {s:ByteArray} {i R:Int} (h:i<s.size) (hp:p (ad s i)=true) (hR:gT p s i=R):gT p s (i+1)=R:=by rw [gT,dif_pos ⟨h,hp⟩] at hR;exact hR
theorem nA {p:Int→Bool} {s:ByteArray} {i R:Int} (hp:p (ad s i)=false) (hR:gT p s i=R):R=i:=by rw [gT,dif_neg (by simp [hp])] at hR;exact hR.symm
theorem AJ {p:Int→Bool} {s:ByteArray} {i R:Int} (h:¬ i<s.size) (hR:gT p s i=R):R=i:=by rw [gT,dif_neg (by simp [h])] at hR;exact hR.symm
theorem Gh (p:Int→Bool) (s:ByteArray) (i:Int):i≤gT p s i∧(i≤s.size→gT p s i≤s.size):=by
 rw [gT]
 split
 ·rename_i h
  have:=Gh p s (i+1)
  omega
 ·omega
termination_by ((s.size:Int)-i).toNat
theorem aen {p:Int→Bool} {s:ByteArray} {i:Int} (h:i<s.size) (hp:p (ad s i)=true):i<gT p s i:=by
 have h1:=oT h hp rfl
 have:=(Gh p s (i+1)).1
 omega
theorem aaP {c:Int} (h0:0≤c) (h1:c<256) (h:eZ c=true):nQ c=false∧c≠35:=by
 have e:nQ c=fe c [32,9,10,13]:=Ci h0 h1
 rw [e]
 simp only [eZ,Bool.or_eq_true,dZ,decide_eq_true_eq,beq_iff_eq] at h
 refine ⟨?_,J⟩
 simp only [fe,List.any_cons,List.any_nil,Bool.or_false,Bool.or_eq_false_iff,beq_eq_false_iff_ne]
 omega
def j4 (p:Int→Bool) (s:ByteArray) (i:Int):ByteArray:=s.extract i.toNat (gT p s i).toNat
theorem Gs (p:Int→Bool) (s:ByteArray) {i:Int} (h0:0≤i) (h1:i≤s.size):((j4 p s i).size:Int)=gT p s i-i:=by
 have:=Gh p s i
 rw [j4,iy];omega
theorem K9 (p:Int→Bool) (s:ByteArray) {i:Int} (h0:0≤i) (h1:i≤s.size):i+((j4 p s i).size:Int)≤s.size:=by
 have:=Gh p s i
 rw [Gs p s h0 h1];omega
theorem JB {s:ByteArray} {i:Int} (h0:0≤i) (h1:i≤s.size) (hb:0≤ad s i∧ad s i<256) (h:eZ (ad s i)=true):((j4 nQ s i).size:Int)=0∧ad s i≠35:=by
 have h2:=aaP hb.1 hb.2 h
 have:=nA h2.1 rfl
 rw [Gs _ s h0 h1]
 exact ⟨J,h2.2⟩
theorem ag4 {s:ByteArray} {i:Int} (h0:0≤i) (h1:i<s.size) (h:eZ (ad s i)=true):0<((j4 iG s i).size:Int):=by
 have:=aen (p:=iG) h1 (by rw [iG,h];rfl)
 rw [Gs _ s h0 J];omega
def pp (s:ByteArray):Bool:=s.toList==(⟨#[]⟩:ByteArray).toList
def DP (s:ByteArray) (i k:Int) (t:ByteArray) (n:Int):Prop:=
 (eZ (ad s i)=true∧k=1∧t=j4 iG s i∧n=(t.size:Int)∧0<n)∨(eZ (ad s i)=false∧(n=0∨k≠1))
theorem ag1 {s:ByteArray} {i k n:Int} {t:ByteArray} (h:DP s i k t n) (hn:¬ 0<n):eZ (ad s i)=false:=by
 rcases h with ⟨_,_,_,_,h⟩ |h
 ·exact absurd h hn
 ·exact h.1
def qB (s:ByteArray) (i k a:Int) (t:ByteArray) (n:Int):Prop:=
 0<n∧a=i∧((eZ (ad s i)=true∧k=1∧t=j4 iG s i∧n=(t.size:Int))∨(eZ (ad s i)=false∧k≠1))
theorem afy {s:ByteArray} {i k n:Int} {t:ByteArray} (h:DP s i k t n) (hn:0<n):qB s i k i t n:=by
 rcases h with ⟨h1,h2,h3,h4,h5⟩ |⟨h1,h2⟩
 ·exact ⟨hn,rfl,.inl ⟨h1,h2,h3,h4⟩⟩
 ·exact ⟨hn,rfl,.inr ⟨h1,h2.resolve_left J⟩⟩
def isWord (s:ByteArray):Bool:=decide (0<(s.size:Int))&&(eZ (ad s 0)&&gT iG s 0==(s.size:Int))
theorem Ck {s:ByteArray} (h:eZ (ad s 0)=false):isWord s=false:=by rw [isWord,h,Bool.false_and,Bool.and_false]
theorem Ot {s:ByteArray} (h:¬ 0<(s.size:Int)):isWord s=false:=by rw [isWord,decide_eq_false h,Bool.false_and]
def vw (s:ByteArray) (ts:List (Int×Int×ByteArray)) (p:Int):Prop:=
 (isWord s=true→ts=[(1,0,s)]∧p=s.size)∧(ts.head?=some (1,0,s)→isWord s=true)
theorem afF {s:ByteArray} {p k a n:Int} {t:ByteArray} (h0:0≤p) (hl:p<s.size) (hp:p=0∨eZ (ad s 0)=false) (h:qB s p k a t n):vw s [(k,a,t)] (p+n):=by
 obtain ⟨hn,rfl,h⟩:=h
 refine ⟨fun hw=>?_,fun hh=>?_⟩
 ·have nZ:a=0:=by
   rcases hp with hp |hp
   ·exact hp
   ·rw [Ck hp] at hw;cases hw
  subst nZ
  simp only [isWord,dZ,decide_eq_true_eq,beq_iff_eq] at hw
  rcases h with ⟨h1,rfl,rfl,rfl⟩ |⟨h1,_⟩
  ·have e:j4 iG s 0=s:=by rw [j4,hw.2.2];exact ByteArray.extract_zero_size
   rw [e];exact ⟨rfl,J⟩
  ·rw [h1] at hw;exact absurd hw.2.1 (by decide)
 ·simp only [List.head?_cons,bH,b8] at hh
  obtain ⟨rfl,rfl,rfl⟩:=hh
  rcases h with ⟨h1,_,h2,h3⟩ |⟨_,h1⟩
  ·have:=Gs iG t (i:=0) J J
   rw [← h2] at this
   simp only [isWord,dZ,decide_eq_true_eq,beq_iff_eq]
   exact ⟨J,h1,J⟩
  ·exact absurd rfl h1
theorem afG {s:ByteArray} {ts:List (Int×Int×ByteArray)} {p q:Int} {x:Int×Int×ByteArray} (h:vw s ts p) (hl:p<s.size) (hb:0<ts.length):vw s (ts++[x]) q:=by
 refine ⟨fun hw=>absurd (h.1 hw).2 J,fun hh=>h.2 ?_⟩
 cases ts with
 |nil=>cases hb
 |cons y ts=>exact hh
theorem afI {s:ByteArray} {ts:List (Int×Int×ByteArray)} {p q:Int} (h:vw s ts p) (hl:p<s.size):vw s ts q:=⟨fun hw=>absurd (h.1 hw).2 J,h.2⟩
theorem afH {s:ByteArray} {ts:List (Int×Int×ByteArray)} {p:Int} (h:vw s ts p) (hl:p<s.size):isWord s=false:=by
 cases e:isWord s with
 |false=>rfl
 |true=>exact absurd (h.1 e).2 J
theorem afE {s:ByteArray} {ts:List (Int×Int×ByteArray)} {p:Int} (h:vw s ts p):ts=[(1,0,s)]↔isWord s=true:=⟨fun e=>h.2 (by rw [e];rfl),fun e=>(h.1 e).1⟩
theorem Tg {s:ByteArray} {p n:Int} (hp:p=0∨eZ (ad s 0)=false) (h:eZ (ad s p)=true→n=0) (hn:0<n) {q:Int}:q=0∨eZ (ad s 0)=false:=by
 rcases hp with rfl |hp
 ·refine .inr ?_
  cases e:eZ (ad s 0) with
  |false=>rfl
  |true=>have:=h e;omega
 ·exact .inr hp
theorem abR {s:ByteArray} {p:Int} (hp:p=0∨eZ (ad s 0)=false) (h:¬ p<s.size):isWord s=false:=by
 rcases hp with rfl |hp
 ·exact Ot h
 ·exact Ck hp
theorem abS {s:ByteArray} {p:Int} (hp:p=0∨eZ (ad s 0)=false) (h:eZ (ad s p)=false):isWord s=false:=by
 rcases hp with rfl |hp
 ·exact Ck h
 ·exact Ck hp
theorem afD {s:ByteArray} {i k a n:Int} {t:ByteArray} (h:n=0∧eZ (ad s i)=false∨qB s i k a t n) (hn:n≠0):qB s i k a t n:=h.resolve_left fun h=>hn h.1
theorem afC {s:ByteArray} {i k a n:Int} {t:ByteArray} (h:n=0∧eZ (ad s i)=false∨qB s i k a t n) (hn:n=0):eZ (ad s i)=false:=by
 rcases h with h |h
 ·exact h.2
 ·have:=h.1;omega
theorem Cw {c:Int} (h:c=95∨(97≤c∧c≤122)∨(65≤c∧c≤90)∨(48≤c∧c≤57)):hY c=true:=by
 simp only [hY,Bool.or_eq_true,dZ,decide_eq_true_eq,beq_iff_eq];omega
theorem Cv {c:Int} (h:¬ (c=95∨(97≤c∧c≤122)∨(65≤c∧c≤90)∨(48≤c∧c≤57))):hY c=false:=by
 cases e:hY c with
 |false=>rfl
 |true=>simp only [hY,Bool.or_eq_true,dZ,decide_eq_true_eq,beq_iff_eq] at e;omega
theorem zv {c:Int} (h:48≤c∧c≤57):hH c=true:=by simp only [hH,dZ,decide_eq_true_eq];omega
theorem zu {c:Int} (h:¬ (48≤c∧c≤57)):hH c=false:=by
 cases e:hH c with
 |false=>rfl
 |true=>simp only [hH,dZ,decide_eq_true_eq] at e;omega
def jh (s:ByteArray):Bool:=!(s.toList==(⟨#[]⟩:ByteArray).toList)&&(!decide ((s.size:Int)>200)&&(!hH (ad s 0)&&gT hY s 0==(s.size:Int)))
theorem Cx {c:Int} (h:c=95∨c=58∨(97≤c∧c≤122)∨(65≤c∧c≤90)):eZ c=true:=by
 simp only [eZ,Bool.or_eq_true,dZ,decide_eq_true_eq,beq_iff_eq];omega
theorem wg {c:Int} (h:¬ (c=95∨c=58∨(97≤c∧c≤122)∨(65≤c∧c≤90))):eZ c=false:=by
 cases e:eZ c with
 |false=>rfl
 |true=>simp only [eZ,Bool.or_eq_true,dZ,decide_eq_true_eq,beq_iff_eq] at e;omega
theorem DC {c:Int} (h:c=95∨c=58∨(97≤c∧c≤122)∨(65≤c∧c≤90)∨(48≤c∧c≤57)):iG c=true:=by
 by_cases h2:48≤c∧c≤57
 ·rw [iG,zv h2,Bool.or_true]
 ·rw [iG,Cx J,Bool.true_or]
theorem yL {c:Int} (h:¬ (c=95∨c=58∨(97≤c∧c≤122)∨(65≤c∧c≤90)∨(48≤c∧c≤57))):iG c=false:=by
 rw [iG,wg J,zu J];rfl
theorem Y7 {s:ByteArray} (h0:0<(s.size:Int)) (h1:eZ (ad s 0)=true) (h2:gT iG s 0=s.size):isWord s=true:=by
 rw [isWord,decide_eq_true h0,h1,beq_iff_eq.2 h2];rfl
theorem Y6 {s:ByteArray} (h:gT iG s 0<s.size∨eZ (ad s 0)=false):isWord s=false:=by
 rcases h with h |h
 ·rw [isWord,show (gT iG s 0==(s.size:Int))=false from beq_eq_false_iff_ne.2 J,Bool.and_false,Bool.and_false]
 ·exact Ck h
theorem GI {a b:ByteArray} {r:Bool} (h:(a.toList==b.toList)=r):(b.toList==a.toList)=r:=by
 rw [← h,Bool.eq_iff_iff,beq_iff_eq,beq_iff_eq];exact eq_comm
theorem abK {s:ByteArray} (h0:0<(s.size:Int)) (h1:¬ (s.size:Int)>200) (h2:hH (ad s 0)=false) (h3:gT hY s 0=s.size):jh s=true:=by
 have e:(s.toList==(⟨#[]⟩:ByteArray).toList)=false:=by
  cases e:s.toList==(⟨#[]⟩:ByteArray).toList with
  |false=>rfl
  |true=>have:=Dk e;omega
 rw [jh,e,decide_eq_false h1,h2,beq_iff_eq.2 h3];rfl
theorem JL {s:ByteArray} (h:¬ 0<(s.size:Int)∨(s.size:Int)>200∨hH (ad s 0)=true∨gT hY s 0≠s.size):jh s=false:=by
 cases e:jh s with
 |false=>rfl
 |true=>
  simp only [jh,dZ,Bool.not_eq_true',decide_eq_false_iff_not,beq_iff_eq] at e
  obtain ⟨e1,e2,bc,aN⟩:=e
  have:=Dj e1
  rcases h with h |h |h |h
  ·omega
  ·exact absurd h e2
  ·rw [bc] at h;cases h
  ·exact absurd aN h
theorem aaT (c:Int) {H:Z} (y:aa E G H):aV E G 122 [ab c] H [] (fun v H'=>v=(.bool (eZ c))):=by
 refine bB Tryz.f122 y ?_
 refine aY 2 c 95 ?_ ?_ <;> intro h1 q1
 ·exact af 7 aw H (by rw [eZ,h1] <;> rfl)
 refine aY 2 c 58 ?_ ?_ <;> intro h2 cv
 ·exact af 6 aw H (by rw [eZ,h1,h2] <;> rfl)
 refine aD 3 (c≥97) ?_ ?_ <;> intro h3 cY
 ·refine aD 2 (c≤122) ?_ ?_ <;> intro h4 cO
  ·exact af 5 aw H (by rw [eZ,h1,h2,h3,h4] <;> rfl)
  refine aD 4 (c≥65) ?_ ?_ <;> intro h5 dc
  ·refine aD 2 (c≤90) ?_ ?_ <;> intro h6 di
   ·exact af 3 aw H (by rw [eZ,h1,h2,h3,h4,h5,h6] <;> rfl)
   exact af 3 U H (by rw [eZ,h1,h2,h3,h4,h5,h6] <;> rfl)
  exact af 4 U H (by rw [eZ,h1,h2,h3,h4,h5] <;> rfl)
 refine aD 5 (c≥65) ?_ ?_ <;> intro h4 cO
 ·refine aD 2 (c≤90) ?_ ?_ <;> intro h5 dc
  ·exact af 3 aw H (by rw [eZ,h1,h2,h3,h4,h5] <;> rfl)
  exact af 3 U H (by rw [eZ,h1,h2,h3,h4,h5] <;> rfl)
 exact af 4 U H (by rw [eZ,h1,h2,h3,h4] <;> rfl)
theorem z7 (c:Int):∀{H:Z},aa E G H→bF E 122 [ab c] H (.ret (.bool (eZ c))) H []:=by
 obtain ⟨_,_,c,_,_,rfl⟩:=aaT c eH
 exact fun y=>eh (et rfl) (.ground rfl) c y
theorem aaS (c:Int) {H:Z} (y:aa E G H):aV E G 124 [ab c] H [] (fun v H'=>v=(.bool (hH c))):=by
 refine bB Tryz.f124 y ?_
 refine aD 2 (c≥48) ?_ ?_ <;> intro h1 q1
 ·refine aD 2 (c≤57) ?_ ?_ <;> intro h2 cv
  ·exact af 2 aw H (by rw [hH,h1,h2] <;> rfl)
  exact af 2 U H (by rw [hH,h1,h2] <;> rfl)
 exact af 3 U H (by rw [hH,h1] <;> rfl)
theorem tn (c:Int):∀{H:Z},aa E G H→bF E 124 [ab c] H (.ret (.bool (hH c))) H []:=by
 obtain ⟨_,_,c,_,_,rfl⟩:=aaS c eH
 exact fun y=>eh (et rfl) (.ground rfl) c y
theorem aaQ (c:Int) {H:Z} (y:aa E G H):aV E G 80 [ab c] H [] (fun v H'=>v=(.bool (hY c))):=by
 refine bB Tryz.f80 y ?_
 refine aY 2 c 95 ?_ ?_ <;> intro h1 q1
 ·exact af 7 aw H (by rw [hY,h1] <;> rfl)
 refine aD 2 (c≥97) ?_ ?_ <;> intro h2 cv
 ·refine aD 2 (c≤122) ?_ ?_ <;> intro h3 cY
  ·exact af 7 aw H (by rw [hY,h1,h2,h3] <;> rfl)
  refine aD 4 (c≥65) ?_ ?_ <;> intro h4 cO
  ·refine aD 2 (c≤90) ?_ ?_ <;> intro h5 dc
   ·exact af 5 aw H (by rw [hY,h1,h2,h3,h4,h5] <;> rfl)
   refine aD 4 (c≥48) ?_ ?_ <;> intro h6 di
   ·refine aD 2 (c≤57) ?_ ?_ <;> intro h7 gM
    ·exact af 3 aw H (by rw [hY,h1,h2,h3,h4,h5,h6,h7] <;> rfl)
    exact af 3 U H (by rw [hY,h1,h2,h3,h4,h5,h6,h7] <;> rfl)
   exact af 4 U H (by rw [hY,h1,h2,h3,h4,h5,h6] <;> rfl)
  refine aD 5 (c≥48) ?_ ?_ <;> intro h5 dc
  ·refine aD 2 (c≤57) ?_ ?_ <;> intro h6 di
   ·exact af 3 aw H (by rw [hY,h1,h2,h3,h4,h5,h6] <;> rfl)
   exact af 3 U H (by rw [hY,h1,h2,h3,h4,h5,h6] <;> rfl)
  exact af 4 U H (by rw [hY,h1,h2,h3,h4,h5] <;> rfl)
 refine aD 5 (c≥65) ?_ ?_ <;> intro h3 cY
 ·refine aD 2 (c≤90) ?_ ?_ <;> intro h4 cO
  ·exact af 5 aw H (by rw [hY,h1,h2,h3,h4] <;> rfl)
  refine aD 4 (c≥48) ?_ ?_ <;> intro h5 dc
  ·refine aD 2 (c≤57) ?_ ?_ <;> intro h6 di
   ·exact af 3 aw H (by rw [hY,h1,h2,h3,h4,h5,h6] <;> rfl)
   exact af 3 U H (by rw [hY,h1,h2,h3,h4,h5,h6] <;> rfl)
  exact af 4 U H (by rw [hY,h1,h2,h3,h4,h5] <;> rfl)
 refine aD 5 (c≥48) ?_ ?_ <;> intro h4 cO
 ·refine aD 2 (c≤57) ?_ ?_ <;> intro h5 dc
  ·exact af 3 aw H (by rw [hY,h1,h2,h3,h4,h5] <;> rfl)
  exact af 3 U H (by rw [hY,h1,h2,h3,h4,h5] <;> rfl)
 exact af 4 U H (by rw [hY,h1,h2,h3,h4] <;> rfl)
theorem letter (c:Int):∀{H:Z},aa E G H→bF E 80 [ab c] H (.ret (.bool (hY c))) H []:=by
 obtain ⟨_,_,c,_,_,rfl⟩:=aaQ c eH
 exact fun y=>eh (et rfl) (.ground rfl) c y
noncomputable def UQ:Code:=cw [1,1,0,1,0,0] (cx Tryz.f69)
theorem Pz (s:ByteArray) (R:Int):∀(m:Nat) (pQ:Int) (H:Z),aa E G H→(hs:(s.size:Int)<100000)→(x0:0≤pQ)→(x1:pQ≤(s.size:Int))→(hR:gT hY s pQ=R)→((s.size:Int)-pQ).toNat=m→
  bV E G 32 UQ [(0,.string s),(22,M (s.size:Int)),(23,M pQ)] H [] (fun x T H'=>(x=(.exit 0)∧T=aP []∧(R=s.size))∨(x=.ret∧T=aP [(2,U)]∧(R<s.size))):=by
 refine dJ fun m ih=>?_
 intro pQ H y hs x0 x1 hR hm
 refine cN y ?_
 refine aD 0 (pQ<(s.size:Int)) ?_ ?_ <;> intro h1 q1
 ·refine aG 4 pQ (s.size:Int)<|?_
  cases h2:(hY (ad s pQ)) with
  |true=>
   exact ac 0 (cP h2 (letter (ad s pQ) y))<|aH 1 (pQ+1)<|du 1 [(0,.string s),(22,M (s.size:Int)),(23,M (pQ+1))] H (ih _ J (pQ+1) _ y hs J J (oT J h2 hR) rfl)
  |false=>
   exact ac 0 (cP h2 (letter (ad s pQ) y))<|cF 2 [(2,U)] .ret H (.inr ⟨rfl,rfl,(by have:=nA h2 hR;omega)⟩)
 exact cF 0 [] (.exit 0) H (.inl ⟨rfl,rfl,(by have:=AJ J hR;omega)⟩)
theorem abI (s:ByteArray) {H:Z} (y:aa E G H) (hs:(s.size:Int)<100000):aV E G 69 [.string s] H [] (fun v H'=>v=(.bool (jh s))):=by
 refine bB Tryz.f69 y ?_
 refine d5 2 (s.toList==(⟨#[]⟩:ByteArray).toList) (fun h1=>?_) fun h1=>?_
 ·exact af 5 U H (by rw [jh,h1] <;> rfl)
 have q1:=Dj h1
 refine aD 3 ((s.size:Int)>200) ?_ ?_ <;> intro h2 cv
 ·exact af 4 U H (by rw [jh,h1,h2] <;> rfl)
 refine aG 3 (0:Int) (s.size:Int)<|aD 0 ((ad s 0)≥48) ?_ ?_ <;> intro h3 cY
 ·refine aG 2 (0:Int) (s.size:Int)<|aD 0 ((ad s 0)≤57) ?_ ?_ <;> intro h4 cO
  ·exact af 3 U H (by rw [jh,h1,h2,show hH (ad s 0)=_ from (by rw [hH,h3,h4]:hH (ad s 0)=(true&&true))] <;> rfl)
  obtain ⟨_,_,H1,c1,ak,y1,bE⟩:=(Pz s (gT hY s 0) _ 0 _ y hs J J rfl rfl).code
  rcases bE with ⟨rfl,rfl,aI⟩ |⟨rfl,rfl,aI⟩
  ·exact bx 5 c1<|af 1 aw H1 (by rw [jh,h1,h2,show hH (ad s 0)=_ from (by rw [hH,h3,h4]:hH (ad s 0)=(true&&false)),show (gT hY s 0==(s.size:Int))=true from beq_iff_eq.2 aI] <;> rfl)
  exact bx 5 c1<|af 0 U H1 (by rw [jh,h1,h2,show hH (ad s 0)=_ from (by rw [hH,h3,h4]:hH (ad s 0)=(true&&false)),show (gT hY s 0==(s.size:Int))=false from beq_eq_false_iff_ne.2 J] <;> rfl)
 obtain ⟨_,_,H1,c1,ak,y1,bE⟩:=(Pz s (gT hY s 0) _ 0 _ y hs J J rfl rfl).code
 rcases bE with ⟨rfl,rfl,aI⟩ |⟨rfl,rfl,aI⟩
 ·exact bx 6 c1<|af 1 aw H1 (by rw [jh,h1,h2,show hH (ad s 0)=_ from (by rw [hH,h3]:hH (ad s 0)=(false&&decide (ad s 0≤57))),show (gT hY s 0==(s.size:Int))=true from beq_iff_eq.2 aI] <;> rfl)
 exact bx 6 c1<|af 0 U H1 (by rw [jh,h1,h2,show hH (ad s 0)=_ from (by rw [hH,h3]:hH (ad s 0)=(false&&decide (ad s 0≤57))),show (gT hY s 0==(s.size:Int))=false from beq_eq_false_iff_ne.2 J] <;> rfl)
theorem CE (s:ByteArray) (hs:(s.size:Int)<100000):∀{H:Z},aa E G H→bF E 69 [.string s] H (.ret (.bool (jh s))) H []:=by
 obtain ⟨_,_,c,_,_,rfl⟩:=abI s eH hs
 exact fun y=>eh (et rfl) (.ground rfl) c y
theorem YT (s:ByteArray) (c:Int) {H:Z}:bF E 147 [.string s,.int .u8 c] H (.ret (.int .i64 (lL s c))) H []:=by
 have hn:Extern.BytealgIndexByte.indexByte #[.string s,.int .u8 c]=pure (.int .i64 (lL s c)):=by
  have e0:Extern.BytealgIndexByte.indexByte #[.string s,.int .u8 c]=(match (List.range s.size).find? fun i=>s[i]! == c.toNat.toUInt8 with |some i=>(pure (goInt i):Sem Value) |none=>pure (goInt (-1))):=rfl
  rw [e0,lL]
  generalize List.find? _ _=o
  cases o <;> rfl
 exact bF.extern ok (fn:=Tryz.f147) (e:=Extern.BytealgIndexByte.indexByte) an an an an an rfl rfl hn
theorem WT:E.func 121=some Tryz.f121:=an
theorem WU:HS Tryz.f121 2=true:=an
theorem YV (s:ByteArray) (c:Int) {H:Z} (y:aa E G H):aV E G 121 [.string s,ab c] H [] (fun v H'=>v=(M (lL s c))):=by
 refine bB Tryz.f121 y ?_
 exact ac 3 (YT s c:bF E 147 [.string s,ab c] H (.ret (M (lL s c))) H [])<|af 1 (M (lL s c)) H rfl
theorem YU (s:ByteArray) (c:Int):∀{H:Z},aa E G H→bF E 121 [.string s,ab c] H (.ret (M (lL s c))) H []:=by
 obtain ⟨_,_,c,_,_,rfl⟩:=YV s c eH
 exact fun y=>eh (et rfl) (.ground rfl) c y
theorem WP:E.func 103=some Tryz.f103:=an
theorem WQ:HS Tryz.f103 2=true:=an
theorem YX (s:ByteArray) (c:Int) {H:Z} (y:aa E G H):aV E G 103 [.string s,ab c] H [] (fun v H'=>v=(M (lL s c))):=by
 refine bB Tryz.f103 y ?_
 exact ac 3 (YU s c y)<|af 1 (M (lL s c)) H rfl
theorem indexByte (s:ByteArray) (c:Int):∀{H:Z},aa E G H→bF E 103 [.string s,ab c] H (.ret (M (lL s c))) H []:=by
 obtain ⟨_,_,c,_,_,rfl⟩:=YX s c eH
 exact fun y=>eh (et rfl) (.ground rfl) c y
theorem yz (s:ByteArray) (k:Nat):(s.extract k s.size).size=s.size-k:=by rw [iy];omega
theorem RC (s:ByteArray) (k i:Nat) (h:k≤s.size):(s.extract k s.size).extract i (s.extract k s.size).size=s.extract (k+i) s.size:=by
 rw [yz,ByteArray.extract_extract];congr 1;omega
theorem afk (s:ByteArray):s.extract 0 s.size=s:=ByteArray.extract_zero_size
theorem Hr (s:ByteArray) (k:Nat) (i:Int) (h0:0≤i) (h1:(k:Int)+i<s.size):ad (s.extract k s.size) i=ad s (k+i):=by
 unfold ad
 rw [ByteArray.data_extract,Array.getElem?_extract]
 have hs:s.data.size=s.size:=rfl
 rw [if_pos J]
 have:k+i.toNat=(k+i:Int).toNat:=J
 rw [this]
theorem jl (s:ByteArray) (i:Int):0≤ad s i:=by unfold ad;omega
theorem jc (s:ByteArray) (i:Int):ad s i<256:=by
 unfold ad
 have:=UInt8.toNat_lt (s.data[i.toNat]?.getD 0)
 omega
theorem sound:Sound E:=by
 refine ⟨ok,fun f fn h=>?_,fun g p h=>?_,fun g p h=>?_⟩
 ·have key:∀(l:List Func),l.all (fun fn=>!(fn.name== "runtime.NumGoroutine"))=true→∀(i:Nat) fn,l[i]?=some fn→(fn.name== "runtime.NumGoroutine")=false:=by
   intro l hl i fn hi
   have:=List.all_eq_true.1 hl fn (List.mem_of_getElem? hi)
   simpa using this
  refine key Tryz.prog.funcs.toList an f fn ?_
  have h:Tryz.prog.funcs[f]?=some fn:=h
  simpa using h
 ·cases h
 ·cases h
noncomputable def runs (f:Nat) (g:FuncId) (args:List Value):Option (Value×Bool):=
 match vB E f g args G with
 |some (.ret v,H',W)=>some (v,W.all fun q=>Nat.ble 31 q&&Nat.blt q H'.n)
 |_=>none
theorem ada {f:Nat} {g:FuncId} {args:List Value} {v:Value} (h:runs f g args=some (v,true)):∃ lE,bF E g args G (.ret v) lE []:=by
 unfold runs at h
 split at h
 ·rename_i v1 H1 W hr
  simp only [bH,b8] at h
  obtain ⟨rfl,hw⟩:=h
  have c:bF E g args G (.ret v1) H1 W:=Ht sound f g args G _ _ _ hr
  refine ⟨H1,c.norm fun q hq=>.inr ?_⟩
  have:=List.all_eq_true.1 hw q hq
  simp only [dZ,Nat.blt_eq] at this
  have h1:=gg this.1
  rw [iY];omega
 ·cases h
theorem F2 {f:Nat} {g:FuncId} {args:List Value} {v:Value} (h:runs f g args=some (v,true)) (ha:∀ x∈args,j8 x) (hv:j8 v) {H:Z} (y:aa E G H):bF E g args H (.ret v) H []:=by
 obtain ⟨lE,c⟩:=ada h
 exact eh ha hv c y
noncomputable def setCells (l:List Nat):List Value:=(List.range 256).map fun i=>.bool (l.contains i)
theorem SR {H:Z} (y:aa E G H):bF E 178 [.string ⟨#[48,49,50,51,52,53,54,55,56,57]⟩] H (.ret (.tuple #[.agg (setCells [48,49,50,51,52,53,54,55,56,57]).toArray,aw])) H []:=
 F2 (f:=200) an (et rfl) (.tuple fun x hx=>by
  simp only [List.mem_cons,aq,or_false] at hx
  rcases hx with rfl |rfl
  ·exact .ground an
  ·exact .ground rfl) y
theorem SS {H:Z} (y:aa E G H):bF E 178 [.string ⟨#[121,119,100,104,109,115]⟩] H (.ret (.tuple #[.agg (setCells [121,119,100,104,109,115]).toArray,aw])) H []:=
 F2 (f:=200) an (et rfl) (.tuple fun x hx=>by
  simp only [List.mem_cons,aq,or_false] at hx
  rcases hx with rfl |rfl
  ·exact .ground an
  ·exact .ground rfl) y
def jW (D:Int→Prop) (s x:ByteArray):Prop:=∃ k:Nat,k≤s.size∧x=s.extract k s.size∧∀ i:Int,0≤i→i<k→D (ad s i)
theorem jW.refl (D:Int→Prop) (s:ByteArray):jW D s s:=⟨0,J,(afk s).symm,fun i h0 h1=>by omega⟩
theorem jW.size {D:Int→Prop} {s x:ByteArray} (h:jW D s x):x.size≤s.size:=by
 obtain ⟨k,h1,rfl,h3⟩:=h
 rw [yz];omega
theorem jW.trans {D:Int→Prop} {s x z:ByteArray} (h:jW D s x) (k:jW D x z):jW D s z:=by
 obtain ⟨a,h1,rfl,h3⟩:=h
 obtain ⟨b,k1,rfl,jp⟩:=k
 rw [yz] at k1
 refine ⟨a+b,J,RC s a b h1,fun i h0 hi=>?_⟩
 by_cases XR:i<a
 ·exact h3 i h0 XR
 ·have:=jp (i-a) J J
  rw [Hr s a (i-a) J J] at this
  rwa [show (a:Int)+(i-a)=i by omega] at this
theorem jW.one {D:Int→Prop} {s:ByteArray} (h:0<(s.size:Int)) (hd:D (ad s 0)):jW D s (s.extract (1:Int).toNat s.size):=
 ⟨1,J,rfl,fun i h0 h1=>by
  have:i=0:=J
  subst this;exact hd⟩
theorem jW.next {D:Int→Prop} {s x:ByteArray} (h:jW D s x) (h1:0<(x.size:Int)) (hd:D (ad x 0)):jW D s (x.extract (1:Int).toNat x.size):=h.trans (.one h1 hd)
theorem jW.mono {D F:Int→Prop} {s x:ByteArray} (h:jW D s x) (hd:∀ c,D c→F c):jW F s x:=by
 obtain ⟨k,h1,h2,h3⟩:=h
 exact ⟨k,h1,h2,fun i a b=>hd _ (h3 i a b)⟩
theorem jW.all {D:Int→Prop} {s x:ByteArray} (h:jW D s x) (h0:x.size=0):∀ i:Int,0≤i→i<s.size→D (ad s i):=by
 obtain ⟨k,h1,rfl,h3⟩:=h
 rw [yz] at h0
 exact fun i a b=>h3 i a J
def yX (D:Int→Prop) (cs:List Value):Prop:=∀ c:Int,0≤c→c<256→∃ v:Bool,cs[c.toNat]?=some (.bool v)∧(v=true→D c)
theorem yX.of (l:List Nat) {D:Int→Prop} (h:∀ n∈l,D (n:Int)):yX D (setCells l):=fun c h0 h1=>by
 refine ⟨l.contains c.toNat,?_,fun hv=>?_⟩
 ·unfold setCells
  rw [List.getElem?_map,List.getElem?_range J];rfl
 ·have:=h c.toNat (by simpa using hv)
  rwa [show (c.toNat:Int)=c by omega] at this
def wW (c:Int):Prop:=48≤c∧c≤57
theorem V1:yX wW (setCells [48,49,50,51,52,53,54,55,56,57]):=.of _ fun n hn=>by
 simp only [List.mem_cons,aq,or_false] at hn
 unfold wW;omega
theorem SQ (c:Int) (b:Nat) (cs:List Value) (D:Int→Prop) {H:Z} (y:aa E G H) (kb:H.get b=some (O cs 240)) (qd:yX D cs) (h0:0≤c) (h1:c<256):aV E G 187 [pt b 0,ab c] H [] (fun v H'=>∃ x:Bool,v=.bool x∧(x=true→D c)):=by
 refine bB Tryz.f187 y ?_
 obtain ⟨v,hv,hd⟩:=qd c h0 h1
 exact aG 4 c (256:Int)<|Y 0 (show al E 4 b (0+c.toNat*1) H=some (.bool v) from cH fK kb (by simpa using hv))<|af 1 (.bool v) H ⟨v,rfl,hd⟩
noncomputable def Uo:Code:=cw [1,0,0,0] (cx Tryz.f179)
theorem aaa (s:ByteArray) (b:Nat) (cs:List Value) (D:Int→Prop):∀(m:Nat) (x0:ByteArray) (H:Z),aa E G H→(kb:H.get b=some (O cs 240))→(i0:jW D s x0)→(qd:yX D cs)→x0.size=m→
  bV E G 16 Uo [(0,.string x0),(1,pt b 0)] H [] (fun x T H'=>(x=(.exit 0)∧∃(z0:ByteArray),T=aP [(0,.string z0)]∧(jW D s z0))):=by
 refine dJ fun m ih=>?_
 intro x0 H y kb i0 qd hm
 refine cN y ?_
 refine aD 2 ((x0.size:Int)>0) ?_ ?_ <;> intro h1 q1
 ·obtain ⟨_,H1,c1,ak,y1,Tp,rfl,Xz⟩:=SQ (ad x0 0) b cs D y kb qd (jl _ _) (jc _ _)
  refine aG 2 (0:Int) (x0.size:Int)<|ac 0 c1<|?_
  cases Tp with
  |true=>
   have gB:=y.kept ak aq kb
   exact aE [am 1]<|eV [.ax] (by omega:0≤(1:Int)) (by omega:(1:Int)≤(x0.size:Int))<|du 1 [(0,.string (x0.extract (1:Int).toNat x0.size)),(1,pt b 0)] H1 (ih _ (by simp only [iy];omega) (x0.extract (1:Int).toNat x0.size) _ y1 gB (i0.next J (Xz rfl)) qd rfl)
  |false=>
   exact cF 1 [(0,.string x0)] (.exit 0) H1 ⟨rfl,x0,rfl,i0⟩
 exact cF 0 [(0,.string x0)] (.exit 0) H ⟨rfl,x0,rfl,i0⟩
theorem RQ (s:ByteArray) (b:Nat) (cs:List Value) (D:Int→Prop) {H:Z} (y:aa E G H) (kb:H.get b=some (O cs 240)) (qd:yX D cs):aV E G 179 [.string s,pt b 0] H [] (fun v H'=>∃ x,v=.string x∧jW D s x):=by
 refine bB Tryz.f179 y ?_
 obtain ⟨_,_,H1,c1,ak,y1,rfl,so,rfl,aI⟩:=(aaa s b cs D _ s _ y kb (jW.refl D s) qd rfl).code
 exact bx 1 c1<|af 2 (.string so) H1 ⟨_,rfl,aI⟩
theorem afS (s:ByteArray) {H:Z} (y:aa E G H):aV E G 166 [.string s,.string ⟨#[48,49,50,51,52,53,54,55,56,57]⟩] H [] (fun v H'=>∃ x,v=.string x∧jW wW s x):=by
 refine bB Tryz.f166 y ?_
 refine d5 2 (s.toList==(⟨#[]⟩:ByteArray).toList) (fun h1=>?_) fun h1=>?_
 ·exact af 4 (.string s) H ⟨_,rfl,.refl _ _⟩
 obtain ⟨_,H1,c1,ak,y1,qw,rfl,xQ⟩:=RQ s (H.n+0) _ wW (y.news [O (setCells [48,49,50,51,52,53,54,55,56,57]) 240]) (aR [O (setCells [48,49,50,51,52,53,54,55,56,57]) 240] H 0 _ rfl) V1
 have c8:=d9 ak
 exact ac 10 (SR y)<|aB 4 (bG RH rfl an an rfl:bu E 240 (H.n+0) 0 (.agg (setCells [48,49,50,51,52,53,54,55,56,57]).toArray) (news H [O (List.replicate 256 U) 240])=some (news H [O (setCells [48,49,50,51,52,53,54,55,56,57]) 240]))<|ac 3 c1<|bf 1 (.string qw) H1 [H.n+0] aJ aL ⟨_,rfl,xQ⟩
theorem afT (s:ByteArray):∃(x:ByteArray),(jW wW s x)∧∀{H:Z},aa E G H→bF E 166 [.string s,.string ⟨#[48,49,50,51,52,53,54,55,56,57]⟩] H (.ret (.string x)) H []:=by
 obtain ⟨_,_,c,_,_,x,rfl,hs⟩:=afS s eH
 exact ⟨x,hs,fun y=>eh (et rfl) (.ground rfl) c y⟩
def Pl (c:Int):Prop:=(48≤c∧c≤57)∨c=46∨c=101∨c=69∨c=43∨c=45
theorem vJ (c:Int) (h:wW c):Pl c:=.inl h
theorem YW (t:ByteArray) (c:Int) (hc0:0≤c) (xz:c<256):∃ n:Int,(0≤n→∃ i,i<t.size∧ad t i=c)∧∀{H:Z},aa E G H→bF E 103 [.string t,.int .u8 c] H (.ret (.int .i64 n)) H []:=by
 have he:∃ n:Int,(0≤n→∃ i,i<t.size∧ad t i=c)∧Extern.BytealgIndexByte.indexByte #[.string t,.int .u8 c]=pure (.int .i64 n):=by
  have e0:Extern.BytealgIndexByte.indexByte #[.string t,.int .u8 c]=(match (List.range t.size).find? fun i=>t[i]! == c.toNat.toUInt8 with |some i=>(pure (goInt i):Sem Value) |none=>pure (goInt (-1))):=rfl
  rw [e0]
  split
  ·rename_i i hi
   refine ⟨_,fun _=>⟨i,?_,?_⟩,rfl⟩
   ·have:=List.mem_of_find?_eq_some hi;simpa using this
   ·have h1:=List.find?_some hi
    have h2:i<t.size:=by have:=List.mem_of_find?_eq_some hi;simpa using this
    have h3:t[i]! = c.toNat.toUInt8:=by simpa using h1
    obtain ⟨b,hb,Ii⟩:=MI (s:=t) (n:=(i:Int)) J J
    rw [Ii]
    have h4:t[i]! = b:=by
     have:t[i]?=some b:=by simpa using hb
     rw [getElem!_def,this]
    rw [h4] at h3
    rw [h3]
    have:c.toNat<256:=J
    have e:(c.toNat.toUInt8).toNat=c.toNat:=by simp [Nat.toUInt8,UInt8.toNat_ofNat',Nat.mod_eq_of_lt this]
    rw [e];omega
  ·exact ⟨-1,fun h=>absurd h J,rfl⟩
 obtain ⟨n,hin,hn⟩:=he
 have Ts:∀{H:Z},bF E 147 [.string t,.int .u8 c] H (.ret (.int .i64 n)) H []:=fun {H}=>bF.extern ok (fn:=Tryz.f147) (e:=Extern.BytealgIndexByte.indexByte) an an an an an rfl rfl hn
 have Tr:∀{H:Z},bF E 121 [.string t,.int .u8 c] H (.ret (.int .i64 n)) H []:=fun {H}=>bF.CX ok (f:=300) (hs:=[.auto 2,.call (.int .i64 n) H [],.auto 0]) WT WU (OP (Ts (H:=H)) trivial) an
 exact ⟨n,hin,fun {H} y=>bF.CX ok (f:=300) (hs:=[.auto 2,.call (.int .i64 n) H [],.auto 0]) WP WQ (OP (Tr (H:=H)) trivial) an⟩
theorem FZ (b:Nat) (s:ByteArray) {H:Z} (y:aa E G H) (kb:H.get b=some (O [.string s] 9)) (pv:G.n≤b):aV E G 165 [pt b 0] H [b] (fun v H'=>∃ n x,v=.int .i64 n∧H'.get b=some (O [.string x] 9)∧jW wW s x):=by
 refine bB Tryz.f165 y ?_
 have z8:=y.wf.lt kb
 obtain ⟨x1,hx1,VV⟩:=afT s
 obtain ⟨aU,e1⟩:∃ ao,ao=H.set b (O [.string x1] 9):=⟨_,rfl⟩
 have gB:=bz e1
 exact Y 1 (ag 0 bA kb)<|ac 0 (VV y)<|Y 1 (ag 0 bA kb)<|aB 6 (stx 0 (.string x1) nC kb e1)<|bf 2 (M (IntKind.i64.wrap ((s.size:Int)-(x1.size:Int)))) aU [b] aW aZ ⟨_,_,rfl,gB,hx1⟩
theorem Aw (b:Nat) (s:ByteArray) (t:ByteArray) (D:Int→Prop) {H:Z} (y:aa E G H) (kb:H.get b=some (O [.string s] 9)) (pv:G.n≤b) (H8:∀ c,(∃ i,i<t.size∧ad t i=c)→D c):aV E G 167 [.string t,pt b 0] H [b] (fun v H'=>∃(is:Bool) (x:ByteArray),v=.bool is∧H'.get b=some (O [.string x] 9)∧jW D s x):=by
 refine bB Tryz.f167 y ?_
 have z8:=y.wf.lt kb
 refine Y 1 (ag 0 bA kb)<|d5 0 (!(s.toList==(⟨#[]⟩:ByteArray).toList)) (fun h1=>?_) fun h1=>?_
 ·have q1:=Dj ((Bool.not_eq_true' _).mp h1)
  obtain ⟨n1,jP,UP⟩:=YW t (ad s 0) (jl _ _) (jc _ _)
  refine Y 2 (ag 0 bA kb)<|aG 0 (0:Int) (s.size:Int)<|ac 0 (UP y)<|aD 0 (n1≥0) ?_ ?_ <;> intro h2 cv
  ·obtain ⟨aU,e1⟩:∃ ao,ao=H.set b (O [.string (s.extract (1:Int).toNat s.size)] 9):=⟨_,rfl⟩
   have gB:=bz e1
   exact Y 3 (ag 0 bA kb)<|eV [.ax] (by omega:0≤(1:Int)) (by omega:(1:Int)≤(s.size:Int))<|aB 0 (stx 0 (.string (s.extract (1:Int).toNat s.size)) nC kb e1)<|bf 2 aw aU [b] aW aZ ⟨_,_,rfl,gB,.one J (H8 _ (jP cv))⟩
  exact bf 5 U H [] aL aZ ⟨_,_,rfl,kb,.refl _ _⟩
 exact bf 6 U H [] aL aZ ⟨_,_,rfl,kb,.refl _ _⟩
theorem acV (c:Int) (h:∃ i:Nat,i<(⟨#[45]⟩:ByteArray).size∧ad ⟨#[45]⟩ i=c):Pl c:=by
 obtain ⟨i,hi,rfl⟩:=h
 have hi:i<1:=hi
 rcases i with _ |i
 ·exact (by show Pl 45;unfold Pl;omega)
 ·omega
theorem acU (c:Int) (h:∃ i:Nat,i<(⟨#[46]⟩:ByteArray).size∧ad ⟨#[46]⟩ i=c):Pl c:=by
 obtain ⟨i,hi,rfl⟩:=h
 have hi:i<1:=hi
 rcases i with _ |i
 ·exact (by show Pl 46;unfold Pl;omega)
 ·omega
theorem Qr (c:Int) (h:∃ i:Nat,i<(⟨#[101,69]⟩:ByteArray).size∧ad ⟨#[101,69]⟩ i=c):Pl c:=by
 obtain ⟨i,hi,rfl⟩:=h
 have hi:i<2:=hi
 rcases i with _ |_ |i
 ·exact (by show Pl 101;unfold Pl;omega)
 ·exact (by show Pl 69;unfold Pl;omega)
 ·omega
theorem Qs (c:Int) (h:∃ i:Nat,i<(⟨#[43,45]⟩:ByteArray).size∧ad ⟨#[43,45]⟩ i=c):Pl c:=by
 obtain ⟨i,hi,rfl⟩:=h
 have hi:i<2:=hi
 rcases i with _ |_ |i
 ·exact (by show Pl 43;unfold Pl;omega)
 ·exact (by show Pl 45;unfold Pl;omega)
 ·omega
theorem acW (s:ByteArray) {H:Z} (y:aa E G H):aV E G 150 [.string s] H [] (fun v H'=>∃(b:Bool),v=.bool b∧(b=true→∀ i:Int,0≤i→i<s.size→Pl (ad s i))):=by
 have g0:=y.n
 refine bB Tryz.f150 y ?_
 obtain ⟨_,H1,c1,ak,y1,aiq,u1,rfl,ZO,hx1⟩:=Aw (H.n+0) s ⟨#[45]⟩ Pl (y.news [O [.string s] 9]) (aR [O [.string s] 9] H 0 _ rfl) J acV
 have c8:=d9 ak
 obtain ⟨_,H2,c2,aF,ar,m2,u2,rfl,ZP,zS⟩:=FZ (H.n+0) u1 y1 ZO J
 have cB:H1.n+0≤H2.n:=aF.n
 obtain ⟨_,H3,c3,bq,aM,Y2,u3,rfl,OR,ET⟩:=Aw (H.n+0) u2 ⟨#[46]⟩ Pl ar ZP J acU
 have ek:H2.n+0≤H3.n:=bq.n
 refine ac 7 c1<|ac 1 c2<|ac 2 c3<|?_
 cases Y2 with
 |true=>
  obtain ⟨_,H4,eg,ee,cu,m4,u4,rfl,E6,Ce⟩:=FZ (H.n+0) u3 aM OR J
  have gm:H3.n+0≤H4.n:=ee.n
  refine ac 2 eg<|aY 3 (IntKind.i64.wrap (m2+m4)) 0 ?_ ?_ <;> intro h2 cv
  ·exact bf 1 U H4 [H.n+0,H.n+0,H.n+0,H.n+0] aJ aL ⟨false,rfl,fun h=>absurd h aW⟩
  obtain ⟨_,H5,fF,ej,dQ,Oo,GM,rfl,E7,EU⟩:=Aw (H.n+0) u4 ⟨#[101,69]⟩ Pl cu E6 J Qr
  have iR:H4.n+0≤H5.n:=ej.n
  refine ac 1 fF<|?_
  cases Oo with
  |true=>
   obtain ⟨_,gF,jd,iW,gN,air,Lk,rfl,Jt,IQ⟩:=Aw (H.n+0) GM ⟨#[43,45]⟩ Pl dQ E7 J Qs
   have qX:H5.n+0≤gF.n:=iW.n
   obtain ⟨_,mD,ov,og,oh,abh,af6,rfl,ZQ,YC⟩:=FZ (H.n+0) Lk gN Jt J
   have CV:gF.n+0≤mD.n:=og.n
   refine ac 1 jd<|ac 1 ov<|aY 0 abh 0 ?_ ?_ <;> intro h4 cO
   ·exact bf 1 U mD [H.n+0,H.n+0,H.n+0,H.n+0,H.n+0,H.n+0,H.n+0] aJ aL ⟨false,rfl,fun h=>absurd h aW⟩
   refine Y 0 (ag 0 bA ZQ)<|d5 0 (af6.toList==(⟨#[]⟩:ByteArray).toList) (fun h5=>?_) fun h5=>?_
   ·have dc:=Dk h5
    exact bf 1 aw mD [H.n+0,H.n+0,H.n+0,H.n+0,H.n+0,H.n+0,H.n+0] aJ aL ⟨true,rfl,fun _=>((((((hx1.trans (zS.mono vJ)).trans ET).trans (Ce.mono vJ)).trans EU).trans IQ).trans (YC.mono vJ)).all dc⟩
   exact bf 1 U mD [H.n+0,H.n+0,H.n+0,H.n+0,H.n+0,H.n+0,H.n+0] aJ aL ⟨false,rfl,fun h=>absurd h aW⟩
  |false=>
   refine Y 0 (ag 0 bA E7)<|d5 0 (GM.toList==(⟨#[]⟩:ByteArray).toList) (fun h4=>?_) fun h4=>?_
   ·have cO:=Dk h4
    exact bf 1 aw H5 [H.n+0,H.n+0,H.n+0,H.n+0,H.n+0] aJ aL ⟨true,rfl,fun _=>((((hx1.trans (zS.mono vJ)).trans ET).trans (Ce.mono vJ)).trans EU).all cO⟩
   exact bf 1 U H5 [H.n+0,H.n+0,H.n+0,H.n+0,H.n+0] aJ aL ⟨false,rfl,fun h=>absurd h aW⟩
 |false=>
  refine aY 1 m2 0 ?_ ?_ <;> intro h2 cv
  ·exact bf 1 U H3 [H.n+0,H.n+0,H.n+0] aJ aL ⟨false,rfl,fun h=>absurd h aW⟩
  obtain ⟨_,H4,eg,ee,cu,Y3,u4,rfl,E6,Ce⟩:=Aw (H.n+0) u3 ⟨#[101,69]⟩ Pl aM OR J Qr
  have gm:H3.n+0≤H4.n:=ee.n
  refine ac 1 eg<|?_
  cases Y3 with
  |true=>
   obtain ⟨_,H5,fF,ej,dQ,Oo,GM,rfl,E7,EU⟩:=Aw (H.n+0) u4 ⟨#[43,45]⟩ Pl cu E6 J Qs
   have iR:H4.n+0≤H5.n:=ej.n
   obtain ⟨_,gF,jd,iW,gN,abg,Lk,rfl,Jt,IQ⟩:=FZ (H.n+0) GM dQ E7 J
   have qX:H5.n+0≤gF.n:=iW.n
   refine ac 1 fF<|ac 1 jd<|aY 0 abg 0 ?_ ?_ <;> intro h4 cO
   ·exact bf 1 U gF [H.n+0,H.n+0,H.n+0,H.n+0,H.n+0,H.n+0] aJ aL ⟨false,rfl,fun h=>absurd h aW⟩
   refine Y 0 (ag 0 bA Jt)<|d5 0 (Lk.toList==(⟨#[]⟩:ByteArray).toList) (fun h5=>?_) fun h5=>?_
   ·have dc:=Dk h5
    exact bf 1 aw gF [H.n+0,H.n+0,H.n+0,H.n+0,H.n+0,H.n+0] aJ aL ⟨true,rfl,fun _=>(((((hx1.trans (zS.mono vJ)).trans ET).trans Ce).trans EU).trans (IQ.mono vJ)).all dc⟩
   exact bf 1 U gF [H.n+0,H.n+0,H.n+0,H.n+0,H.n+0,H.n+0] aJ aL ⟨false,rfl,fun h=>absurd h aW⟩
  |false=>
   refine Y 0 (ag 0 bA E6)<|d5 0 (u4.toList==(⟨#[]⟩:ByteArray).toList) (fun h4=>?_) fun h4=>?_
   ·have cO:=Dk h4
    exact bf 1 aw H4 [H.n+0,H.n+0,H.n+0,H.n+0] aJ aL ⟨true,rfl,fun _=>(((hx1.trans (zS.mono vJ)).trans ET).trans Ce).all cO⟩
   exact bf 1 U H4 [H.n+0,H.n+0,H.n+0,H.n+0] aJ aL ⟨false,rfl,fun h=>absurd h aW⟩
theorem plain (s:ByteArray):∃(b:Bool),(b=true→∀ i:Int,0≤i→i<s.size→Pl (ad s i))∧∀{H:Z},aa E G H→bF E 150 [.string s] H (.ret (.bool b)) H []:=by
 obtain ⟨_,_,c,_,_,b,rfl,hs⟩:=acW s eH
 exact ⟨b,hs,fun y=>eh (et rfl) (.ground rfl) c y⟩
theorem L8:E.agg 3=some false:=an
theorem Mb:E.agg 4=some false:=an
theorem SG:E.agg 5=some false:=an
theorem GF:E.size 3=some 1:=an
theorem GG:E.size 4=some 1:=an
theorem afs:E.size 5=some 1:=an
def cQ (ds:List Int) (nd dp:Int) (neg aT:Bool):List Value:=ds.map (fun x=>Value.int .u8 x)++[.int .i64 nd,.int .i64 dp,.bool neg,.bool aT]
def bY (ds:List Int) (i:Int):Int:=(ds[i.toNat]?).getD 0
theorem zr {ds:List Int} (hl:ds.length=800) (nd dp:Int) (neg aT:Bool):(cQ ds nd dp neg aT).length=804:=by simp [cQ,hl]
theorem ui {ds:List Int} {n:Nat} {x:Int} (hl:ds.length=800):(ds.set n x).length=800:=by simp [hl]
theorem Ef {ds:List Int} (hl:ds.length=800) (nd dp:Int) (neg aT:Bool) (k:Nat):(cQ ds nd dp neg aT)[800+k]?=[Value.int .i64 nd,.int .i64 dp,.bool neg,.bool aT][k]?:=by
 unfold cQ
 rw [List.getElem?_append_right (by simp [hl])]
 simp [hl]
theorem sY {ds:List Int} (hl:ds.length=800) {i:Nat} (hi:i<800) (x:Int) (j:Int) (hj:0≤j):bY (ds.set i x) j=if j=i then x else bY ds j:=by
 unfold bY
 rw [List.getElem?_set]
 by_cases h:j=i
 ·subst h
  simp [hl,hi]
 ·rw [if_neg J,if_neg h]
theorem AR:∀(a b:List Value) (k:Nat) (v:Value),splice (a++b) (a.length+k) [v]=a++splice b k [v]
 |[],b,k,v=>by simp
 |x::a,b,k,v=>by
  rw [List.cons_append,dX,show a.length+1+k=(a.length+k)+1 by omega,splice,AR a b k v];rfl
theorem Gv:∀(a:List Value) (k:Nat) (v:Value),k<a.length→splice a k [v]=a.set k v
 |[],k,v,h=>by simp at h
 |x::a,0,v,h=>by
  show v::splice a 0 []=v::a
  cases a <;> rfl
 |x::a,k+1,v,h=>by
  rw [splice,List.set_cons_succ,Gv a k v (by simpa using h)]
theorem aff {ds:List Int} (hl:ds.length=800) (nd dp:Int) (neg aT:Bool) {i:Nat} (hi:i<800) (x:Int):splice (cQ ds nd dp neg aT) i [.int .u8 x]=cQ (ds.set i x) nd dp neg aT:=by
 rw [Gv _ _ _ (by rw [zr hl];omega)]
 unfold cQ
 rw [List.set_append_left _ _ (by simp [hl,hi]),List.map_set]
section
variable {H:Z} {a:Nat} {ds:List Int} {nd dp:Int} {neg aT:Bool} (hl:ds.length=800) (g:H.get a=some (.cells (cQ ds nd dp neg aT) 281 false))
include hl g
theorem it:al E 3 a 800 H=some (.int .i64 nd):=cH L8 g (Ef hl nd dp neg aT 0)
theorem jN:al E 3 a 801 H=some (.int .i64 dp):=cH L8 g (Ef hl nd dp neg aT 1)
theorem Bx:al E 4 a 802 H=some (.bool neg):=cH Mb g (Ef hl nd dp neg aT 2)
theorem V3:al E 4 a 803 H=some (.bool aT):=cH Mb g (Ef hl nd dp neg aT 3)
theorem nW {i:Int} (h0:0≤i) (h1:i<800):al E 5 a (0+i.toNat*1) H=some (.int .u8 (bY ds i)):=cH SG g (by
 unfold cQ bY
 have hlt:i.toNat<ds.length:=J
 rw [show 0+i.toNat*1=i.toNat by omega,List.getElem?_append_left (by simpa using hlt),List.getElem?_map,fU hlt]
 rfl)
theorem vL {x:Int}:bu E 3 a 800 (.int .i64 x) H=some (H.set a (O (cQ ds x dp neg aT) 281)):=st GF g (by rw [zr hl];rfl) (by
 unfold cQ
 have:=AR (ds.map fun x=>Value.int .u8 x) [.int .i64 nd,.int .i64 dp,.bool neg,.bool aT] 0 (.int .i64 x)
 rw [List.length_map,hl] at this
 exact this)
theorem qG {x:Int}:bu E 3 a 801 (.int .i64 x) H=some (H.set a (O (cQ ds nd x neg aT) 281)):=st GF g (by rw [zr hl];rfl) (by
 unfold cQ
 have:=AR (ds.map fun x=>Value.int .u8 x) [.int .i64 nd,.int .i64 dp,.bool neg,.bool aT] 1 (.int .i64 x)
 rw [List.length_map,hl] at this
 exact this)
theorem Nw {x:Bool}:bu E 4 a 802 (.bool x) H=some (H.set a (O (cQ ds nd dp x aT) 281)):=st GG g (by rw [zr hl];rfl) (by
 unfold cQ
 have:=AR (ds.map fun x=>Value.int .u8 x) [.int .i64 nd,.int .i64 dp,.bool neg,.bool aT] 2 (.bool x)
 rw [List.length_map,hl] at this
 exact this)
theorem BA {x:Bool}:bu E 4 a 803 (.bool x) H=some (H.set a (O (cQ ds nd dp neg x) 281)):=st GG g (by rw [zr hl];rfl) (by
 unfold cQ
 have:=AR (ds.map fun x=>Value.int .u8 x) [.int .i64 nd,.int .i64 dp,.bool neg,.bool aT] 3 (.bool x)
 rw [List.length_map,hl] at this
 exact this)
theorem zw {i x:Int} (h0:0≤i) (h1:i<800):bu E 5 a (0+i.toNat*1) (.int .u8 x) H=some (H.set a (O (cQ (ds.set i.toNat x) nd dp neg aT) 281)):=st afs g (by
  rw [zr hl]
  have:Nat.ble (0+i.toNat*1+1) 804=true:=Nat.ble_eq_true_of_le J
  show (true&&_)=true
  simp only [Bool.true_and];exact this) (by
 rw [show 0+i.toNat*1=i.toNat by omega]
 exact aff hl nd dp neg aT J x)
end
def ix (ds:List Int) (nd:Int):Prop:=∀ i:Int,0≤i→i<nd→48≤bY ds i∧bY ds i≤57
theorem ix.le {ds:List Int} {n m:Int} (h:ix ds n) (hm:m≤n):ix ds m:=fun i h0 h1=>h i h0 J
theorem ix.set {ds:List Int} {n:Int} (hl:ds.length=800) (h:ix ds n) (h0:0≤n) (h1:n<800) {x:Int} (h2:48≤x) (h3:x≤57):ix (ds.set n.toNat x) (n+1):=fun i a b=>by
 rw [sY hl J x i a]
 split
 ·exact ⟨h2,h3⟩
 ·exact h i a J
def dv (ds:List Int):Nat→Nat
 |0=>0
 |n+1=>dv ds n*10+(bY ds n-48).toNat
def gD (s:ByteArray):Nat→Nat
 |0=>0
 |n+1=>gD s n*10+(ad s n-48).toNat
theorem BB {ds:List Int} {nd:Nat} (h:ix ds nd) (i:Nat):∀ m,i+m≤nd→dv ds i*10 ^ m≤dv ds (i+m)∧dv ds (i+m)<(dv ds i+1)*10 ^ m
 |0,_=>by simp
 |m+1,hm=>by
  obtain ⟨h1,h2⟩:=BB h i m J
  have hd:=h (i+m:Nat) J J
  rw [← Nat.add_assoc,dv,Nat.pow_succ,← Nat.mul_assoc,← Nat.mul_assoc]
  omega
def w5 (s:ByteArray):Prop:=∀ i:Int,0≤i→i<s.size→48≤ad s i∧ad s i≤57
theorem Gy {s:ByteArray} (h:w5 s) (i:Nat):∀ m,i+m≤s.size→gD s i*10 ^ m≤gD s (i+m)∧gD s (i+m)<(gD s i+1)*10 ^ m
 |0,_=>by simp
 |m+1,hm=>by
  obtain ⟨h1,h2⟩:=Gy h i m J
  have hd:=h (i+m:Nat) J J
  rw [← Nat.add_assoc,gD,Nat.pow_succ,← Nat.mul_assoc,← Nat.mul_assoc]
  omega
def l4 (ds:List Int) (nd k r n:Nat):Prop:=r≤nd∧∃ T,dv ds nd=dv ds r*10 ^ (nd-r)+T∧T<10 ^ (nd-r)∧n*10 ^ (nd-r)≤T*2 ^ k∧T*2 ^ k<(n+1)*10 ^ (nd-r)
theorem l4.init (ds:List Int) (nd k:Nat):l4 ds nd k nd 0:=⟨Nat.le_refl _,0,by simp,by simp,by simp,by simp⟩
theorem l4.lt {ds:List Int} {nd k r n:Nat} (h:l4 ds nd k r n):n<2 ^ k:=by
 obtain ⟨h0,T,h1,h2,h3,h4⟩:=h
 have:n*10 ^ (nd-r)<2 ^ k*10 ^ (nd-r):=by
  refine Nat.lt_of_le_of_lt h3 ?_
  rw [Nat.mul_comm (2 ^ k)]
  exact Nat.mul_lt_mul_of_pos_right h2 (Nat.pos_of_ne_zero aW)
 exact Nat.lt_of_mul_lt_mul_right this
theorem l4.step {ds:List Int} {nd k r n:Nat} (h:l4 ds nd k (r+1) n) (hd:ix ds nd):l4 ds nd k r ((n+(bY ds r-48).toNat*2 ^ k) / 10):=by
 obtain ⟨h0,T,h1,h2,h3,h4⟩:=h
 have hg:=hd r J J
 generalize hc:(bY ds r-48).toNat=c at *
 have XB:c≤9:=J
 have e:nd-r=nd-(r+1)+1:=J
 generalize nd-(r+1)=m at *
 rw [dv,hc,Nat.add_mul] at h1
 refine ⟨J,c*10 ^ m+T,?_,?_,?_,?_⟩
 ·rw [h1,e,Nat.pow_succ,Nat.add_assoc,Nat.mul_assoc,Nat.mul_comm 10]
 ·rw [e,Nat.pow_succ]
  have:c*10 ^ m≤9*10 ^ m:=Nat.mul_le_mul_right _ XB
  omega
 ·rw [e,Nat.pow_succ,Nat.add_mul]
  generalize hx:n+c*2 ^ k=x
  have hq:x / 10*10≤x:=Nat.div_mul_le_self _ _
  calc x / 10*(10 ^ m*10)=x / 10*10*10 ^ m:=by rw [Nat.mul_assoc,Nat.mul_comm 10]
   _≤x*10 ^ m:=Nat.mul_le_mul_right _ hq
   _=n*10 ^ m+c*2 ^ k*10 ^ m:=by rw [← hx,Nat.add_mul]
   _≤T*2 ^ k+c*2 ^ k*10 ^ m:=Nat.add_le_add_right h3 _
   _=c*10 ^ m*2 ^ k+T*2 ^ k:=by rw [Nat.add_comm,Nat.mul_assoc,Nat.mul_assoc,Nat.mul_comm (2 ^ k)]
 ·rw [e,Nat.pow_succ,Nat.add_mul]
  generalize hx:n+c*2 ^ k=x
  have hq:x<(x / 10+1)*10:=J
  calc c*10 ^ m*2 ^ k+T*2 ^ k<c*10 ^ m*2 ^ k+(n+1)*10 ^ m:=Nat.add_lt_add_left h4 _
   _=(x+1)*10 ^ m:=by rw [← hx,Nat.mul_assoc,Nat.mul_comm (10 ^ m),← Nat.mul_assoc,← Nat.add_mul];congr 1;omega
   _≤(x / 10+1)*10*10 ^ m:=Nat.mul_le_mul_right _ hq
   _=(x / 10+1)*(10 ^ m*10):=by rw [Nat.mul_assoc,Nat.mul_comm 10]
def Below (ds:List Int) (nd:Nat) (s:ByteArray):Prop:=dv ds nd*10 ^ s.size<gD s s.size*10 ^ nd
theorem Ta {ds:List Int} {nd:Nat} {s:ByteArray} (hs:w5 s) (hl:0<s.size) (xF:49≤ad s ((s.size:Int)-1)) (h:nd<s.size) (he:dv ds nd=gD s nd):Below ds nd s:=by
 unfold Below
 obtain ⟨m,hm⟩:∃ m,s.size=nd+m+1:=⟨s.size-nd-1,J⟩
 have h1:=(Gy hs nd m J).1
 have h2:gD s s.size=gD s (nd+m)*10+(ad s (nd+m:Nat)-48).toNat:=by rw [hm,gD]
 have h3:1≤(ad s (nd+m:Nat)-48).toNat:=by
  rw [show (s.size:Int)-1=(nd+m:Nat) by omega] at xF;omega
 have h4:gD s nd*10 ^ (m+1)<gD s s.size:=by
  rw [h2,Nat.pow_succ,← Nat.mul_assoc];omega
 have hz:s.size=m+1+nd:=J
 rw [he]
 calc gD s nd*10 ^ s.size=gD s nd*10 ^ (m+1)*10 ^ nd:=by rw [hz,Nat.pow_add,Nat.mul_assoc]
  _<gD s s.size*10 ^ nd:=Nat.mul_lt_mul_of_pos_right h4 (Nat.pos_of_ne_zero aW)
theorem S9 {ds:List Int} {nd:Nat} {s:ByteArray} (hd:ix ds nd) (hs:w5 s) {i:Nat} (h1:i<nd) (h2:i<s.size) (he:dv ds i=gD s i) (hlt:bY ds i<ad s i):Below ds nd s:=by
 unfold Below
 obtain ⟨a,ha⟩:∃ a,nd=i+1+a:=⟨nd-i-1,J⟩
 obtain ⟨b,hb⟩:∃ b,s.size=i+1+b:=⟨s.size-i-1,J⟩
 have d2:=(BB hd (i+1) a J).2
 have s1:=(Gy hs (i+1) b J).1
 rw [← ha] at d2
 rw [← hb] at s1
 have g1:=hd i J J
 have g2:=hs i J J
 have hk:dv ds (i+1)+1≤gD s (i+1):=by rw [dv,gD,he];omega
 calc dv ds nd*10 ^ s.size<(dv ds (i+1)+1)*10 ^ a*10 ^ s.size:=Nat.mul_lt_mul_of_pos_right d2 (Nat.pos_of_ne_zero aW)
  _≤gD s (i+1)*10 ^ a*10 ^ s.size:=Nat.mul_le_mul_right _ (Nat.mul_le_mul_right _ hk)
  _=gD s (i+1)*10 ^ b*10 ^ nd:=by rw [Nat.mul_assoc,Nat.mul_assoc,← Nat.pow_add,← Nat.pow_add];congr 2;omega
  _≤gD s s.size*10 ^ nd:=Nat.mul_le_mul_right _ s1
theorem abY {ds:List Int} {nd:Nat} {s:ByteArray} (hd:ix ds nd) (hs:w5 s) {i:Nat} (h1:i<nd) (h2:i<s.size) (he:dv ds i=gD s i) (hgt:ad s i<bY ds i):¬ Below ds nd s:=by
 unfold Below
 obtain ⟨a,ha⟩:∃ a,nd=i+1+a:=⟨nd-i-1,J⟩
 obtain ⟨b,hb⟩:∃ b,s.size=i+1+b:=⟨s.size-i-1,J⟩
 have d1:=(BB hd (i+1) a J).1
 have s2:=(Gy hs (i+1) b J).2
 rw [← ha] at d1
 rw [← hb] at s2
 have g1:=hd i J J
 have g2:=hs i J J
 have hk:gD s (i+1)+1≤dv ds (i+1):=by rw [dv,gD,he];omega
 have:gD s s.size*10 ^ nd≤dv ds nd*10 ^ s.size:=by
  calc gD s s.size*10 ^ nd≤(gD s (i+1)+1)*10 ^ b*10 ^ nd:=Nat.mul_le_mul_right _ (Nat.le_of_lt s2)
   _≤dv ds (i+1)*10 ^ b*10 ^ nd:=Nat.mul_le_mul_right _ (Nat.mul_le_mul_right _ hk)
   _=dv ds (i+1)*10 ^ a*10 ^ s.size:=by rw [Nat.mul_assoc,Nat.mul_assoc,← Nat.pow_add,← Nat.pow_add];congr 2;omega
   _≤dv ds nd*10 ^ s.size:=Nat.mul_le_mul_right _ d1
 omega
theorem abX {ds:List Int} {nd:Nat} {s:ByteArray} (hd:ix ds nd) (h:s.size≤nd) (he:dv ds s.size=gD s s.size):¬ Below ds nd s:=by
 unfold Below
 obtain ⟨a,ha⟩:∃ a,nd=s.size+a:=⟨nd-s.size,J⟩
 have d1:=(BB hd s.size a J).1
 rw [← ha] at d1
 have:gD s s.size*10 ^ nd≤dv ds nd*10 ^ s.size:=by
  calc gD s s.size*10 ^ nd=dv ds s.size*10 ^ a*10 ^ s.size:=by rw [he,Nat.mul_assoc,← Nat.pow_add];congr 2;omega
   _≤dv ds nd*10 ^ s.size:=Nat.mul_le_mul_right _ d1
 omega
structure tZ (k delta:Nat) (s:ByteArray):Prop where
 lH:w5 s
 val:gD s s.size=5 ^ k
 last:49≤ad s ((s.size:Int)-1)
 size:s.size+delta=k+1
 pos:0<s.size
 d1:1≤delta
 up:2 ^ k<10 ^ delta
 low:10 ^ (delta-1)≤2 ^ k
theorem l4.less {ds:List Int} {nd k delta n:Nat} {s:ByteArray} (h:l4 ds nd k 0 n) (c:tZ k delta s) (hb:Below ds nd s):n<10 ^ (delta-1):=by
 obtain ⟨h0,T,h1,h2,h3,h4⟩:=h
 have e:T=dv ds nd:=by rw [h1];simp [dv]
 subst e
 simp only [Nat.sub_zero] at *
 unfold Below at hb
 rw [c.val] at hb
 have key:n*10 ^ s.size<10 ^ k:=by
  have:n*10 ^ s.size*10 ^ nd<10 ^ k*10 ^ nd:=by
   calc n*10 ^ s.size*10 ^ nd=n*10 ^ nd*10 ^ s.size:=by rw [Nat.mul_assoc,Nat.mul_assoc,Nat.mul_comm (10 ^ s.size)]
    _≤dv ds nd*2 ^ k*10 ^ s.size:=Nat.mul_le_mul_right _ h3
    _=dv ds nd*10 ^ s.size*2 ^ k:=by rw [Nat.mul_assoc,Nat.mul_assoc,Nat.mul_comm (2 ^ k)]
    _<5 ^ k*10 ^ nd*2 ^ k:=Nat.mul_lt_mul_of_pos_right hb (Nat.pos_of_ne_zero aW)
    _=10 ^ k*10 ^ nd:=by rw [Nat.mul_assoc,Nat.mul_comm (10 ^ nd),← Nat.mul_assoc,← Nat.mul_pow]
  exact Nat.lt_of_mul_lt_mul_right this
 have hk:10 ^ k=10 ^ (delta-1)*10 ^ s.size:=by rw [← Nat.pow_add];congr 1;have:=c.size;have:=c.d1;omega
 rw [hk] at key
 exact Nat.lt_of_mul_lt_mul_right key
theorem l4.aaO {ds:List Int} {nd k delta n:Nat} {s:ByteArray} (h:l4 ds nd k 0 n) (c:tZ k delta s) (H8:10 ^ (nd-1)≤dv ds nd) (hn:1≤nd) (h2:2≤delta):10 ^ (delta-2)≤n:=by
 obtain ⟨h0,T,h1,_,h3,h4⟩:=h
 have e:T=dv ds nd:=by rw [h1];simp [dv]
 subst e
 simp only [Nat.sub_zero] at *
 have hp:10 ^ nd=10 ^ (nd-1)*10:=by rw [← Nat.pow_succ];congr 1;omega
 have hl:=c.low
 have hq:10 ^ (delta-1)=10 ^ (delta-2)*10:=by rw [← Nat.pow_succ];congr 1;omega
 have key:10 ^ (nd-1)*2 ^ k<(n+1)*10*10 ^ (nd-1):=by
  calc 10 ^ (nd-1)*2 ^ k≤dv ds nd*2 ^ k:=Nat.mul_le_mul_right _ H8
   _<(n+1)*10 ^ nd:=h4
   _=(n+1)*10*10 ^ (nd-1):=by rw [hp,Nat.mul_assoc,Nat.mul_comm 10]
 rw [Nat.mul_comm] at key
 have:=Nat.lt_of_mul_lt_mul_right key
 omega
theorem l4.more {ds:List Int} {nd k delta n:Nat} {s:ByteArray} (h:l4 ds nd k 0 n) (c:tZ k delta s) (hb:¬ Below ds nd s):10 ^ (delta-1)≤n:=by
 obtain ⟨h0,T,h1,h2,h3,h4⟩:=h
 have e:T=dv ds nd:=by rw [h1];simp [dv]
 subst e
 simp only [Nat.sub_zero] at *
 unfold Below at hb
 rw [c.val] at hb
 have hb:=Nat.not_lt.1 hb
 have key:10 ^ k<(n+1)*10 ^ s.size:=by
  have:10 ^ k*10 ^ nd<(n+1)*10 ^ s.size*10 ^ nd:=by
   calc 10 ^ k*10 ^ nd=5 ^ k*10 ^ nd*2 ^ k:=by rw [Nat.mul_assoc,Nat.mul_comm (10 ^ nd),← Nat.mul_assoc,← Nat.mul_pow]
    _≤dv ds nd*10 ^ s.size*2 ^ k:=Nat.mul_le_mul_right _ hb
    _=dv ds nd*2 ^ k*10 ^ s.size:=by rw [Nat.mul_assoc,Nat.mul_assoc,Nat.mul_comm (2 ^ k)]
    _<(n+1)*10 ^ nd*10 ^ s.size:=Nat.mul_lt_mul_of_pos_right h4 (Nat.pos_of_ne_zero aW)
    _=(n+1)*10 ^ s.size*10 ^ nd:=by rw [Nat.mul_assoc,Nat.mul_assoc,Nat.mul_comm (10 ^ s.size)]
  exact Nat.lt_of_mul_lt_mul_right this
 have hk:10 ^ k=10 ^ (delta-1)*10 ^ s.size:=by rw [← Nat.pow_add];congr 1;have:=c.size;have:=c.d1;omega
 rw [hk] at key
 have:=Nat.lt_of_mul_lt_mul_right key
 omega
theorem l4.up {ds:List Int} {nd k delta n:Nat} {s:ByteArray} (h:l4 ds nd k 0 n) (c:tZ k delta s):n<10 ^ delta:=Nat.lt_trans h.lt c.up
def MV (k:Nat):Bool:=match Go.Pinned.cheatRows[k]? with
 |some (d,l)=>l.all (fun b=>Nat.ble 48 b.toNat&&Nat.ble b.toNat 57)&&Nat.beq (l.foldl (fun a b=>a*10+(b.toNat-48)) 0) (5 ^ k)&&Nat.ble 49 ((l.getLast?.getD 0).toNat)&&Nat.beq (l.length+d) (k+1)&&Nat.blt 0 l.length&&Nat.ble 1 d&&Nat.blt (2 ^ k) (10 ^ d)&&Nat.ble (10 ^ (d-1)) (2 ^ k)
 |none=>false
theorem T5:((List.range 60).all fun i=>MV (i+1))=true:=an
theorem iU {x:Int} (h0:0≤x) (h1:x<18446744073709551616):IntKind.u64.wrap x=x:=by
 unfold IntKind.wrap
 simp only [IntKind.bits,IntKind.signed,Bool.false_and]
 simp only [Bool.false_eq_true,if_false]
 omega
theorem GP {x:Int} (h0:0≤x) (h1:x<256):IntKind.u8.wrap x=x:=by
 unfold IntKind.wrap
 simp only [IntKind.bits,IntKind.signed,Bool.false_and]
 simp only [Bool.false_eq_true,if_false]
 omega
theorem R8 (x:Int):0≤IntKind.u64.wrap x∧IntKind.u64.wrap x<18446744073709551616:=by
 unfold IntKind.wrap
 simp only [IntKind.bits,IntKind.signed,Bool.false_and]
 simp only [Bool.false_eq_true,if_false]
 omega
theorem vl (x:Int):0≤IntKind.u8.wrap x∧IntKind.u8.wrap x<256:=by
 unfold IntKind.wrap
 simp only [IntKind.bits,IntKind.signed,Bool.false_and]
 simp only [Bool.false_eq_true,if_false]
 omega
theorem RJ {x y:Int} (h:0≤x):Int.tdiv x y=x / y:=Int.tdiv_eq_ediv_of_nonneg h
theorem ae1 {t e n sz b off:Nat} {hi:Int} (hu:E.ul t=some (.array n e)) (hs:E.size e=some sz) (hn:0<n) (h0:0≤hi) (h1:hi≤n) :
  pJ E t (.pointer (some ⟨b,off,none⟩)) (some (.int .i64 0)) (some (.int .i64 hi)) none=some (.slice (some ⟨b,off,none⟩) hi.toNat (2*n+1)):=by
 have e0:Nat.beq n 0=false:=iu J
 have d1:(decide (0≤hi)&&decide (hi≤(n:Int)))=true:=by simp [h0,h1]
 have d2:(decide ((0:Int)≤0)&&decide ((0:Int)≤(hi.toNat:Int)))=true:=by
  rw [decide_eq_true J,decide_eq_true J];rfl
 simp only [pJ,hu,hs,sO,kW,upto,d1,cond_true,d2,Option.isSome_none,Bool.false_and,cond_false,Int.toNat_zero,e0,Nat.zero_mul,Nat.add_zero,Nat.sub_zero]
theorem FV {α:Type} (f g:α→Value):∀(l:List α) (k:Nat),(l.flatMap fun x=>[f x,g x])[2*k]?=l[k]?.map f∧(l.flatMap fun x=>[f x,g x])[2*k+1]?=l[k]?.map g
 |[],k=>by simp
 |x::l,0=>by simp
 |x::l,k+1=>by
  have:=FV f g l k
  simp only [List.flatMap_cons,List.cons_append,List.nil_append,List.getElem?_cons_succ]
  rw [show 2*(k+1)=2*k+1+1 by omega]
  simpa using this
def MU:List Value:=Go.Pinned.cheatRows.flatMap fun x=>[.int .i64 x.1,.string ⟨x.2.toArray⟩]
theorem T3 {k delta:Nat} {l:List UInt8} (h:Go.Pinned.cheatRows[k]?=some (delta,l)):MU[0+(k:Int).toNat*2]?=some (.int .i64 delta):=by
 have:=(FV (fun x:Nat×List UInt8=>Value.int .i64 x.1) (fun x=>.string ⟨x.2.toArray⟩) Go.Pinned.cheatRows k).1
 rw [h] at this
 rw [show 0+(k:Int).toNat*2=2*k by omega]
 exact this
theorem T4 {k delta:Nat} {l:List UInt8} (h:Go.Pinned.cheatRows[k]?=some (delta,l)):MU[0+(k:Int).toNat*2+1]?=some (.string ⟨l.toArray⟩):=by
 have:=(FV (fun x:Nat×List UInt8=>Value.int .i64 x.1) (fun x=>.string ⟨x.2.toArray⟩) Go.Pinned.cheatRows k).2
 rw [h] at this
 rw [show 0+(k:Int).toNat*2+1=2*k+1 by omega]
 exact this
theorem Hq (l:List UInt8) (n:Nat):ad ⟨l.toArray⟩ n=((l[n]?.getD 0).toNat:Int):=by
 unfold ad
 simp
theorem RD (l:List UInt8) (h:∀ b∈l,48≤b.toNat∧b.toNat≤57):∀ n,n≤l.length→gD ⟨l.toArray⟩ n=(l.take n).foldl (fun a b=>a*10+(b.toNat-48)) 0
 |0,_=>by simp [gD]
 |n+1,hn=>by
  have hlt:n<l.length:=J
  rw [gD,RD l h n J,List.take_add_one,fU hlt,List.foldl_append,Hq,fU hlt]
  have:=h l[n] (List.getElem_mem hlt)
  simp only [Option.getD_some,Option.toList_some,List.foldl_cons,List.foldl_nil]
  congr 1
  omega
theorem T2 {k:Nat} (h1:1≤k) (h2:k≤60):∃(delta:Nat) (l:List UInt8),Go.Pinned.cheatRows[k]?=some (delta,l)∧tZ k delta ⟨l.toArray⟩:=by
 have:=List.all_eq_true.1 T5 (k-1) (by simp;omega)
 rw [show k-1+1=k by omega] at this
 unfold MV at this
 split at this
 ·rename_i d l hr
  simp only [dZ,Nat.blt_eq] at this
  obtain ⟨⟨⟨⟨⟨⟨⟨a1,a2⟩,a3⟩,a4⟩,a5⟩,a6⟩,a7⟩,a8⟩:=this
  have a2:=Nat.eq_of_beq_eq_true a2
  have a3:=gg a3
  have a4:=Nat.eq_of_beq_eq_true a4
  have a6:=gg a6
  have a8:=gg a8
  have hd:∀ b∈l,48≤b.toNat∧b.toNat≤57:=fun b hb=>by
   have:=List.all_eq_true.1 a1 b hb
   simp only [dZ] at this
   exact ⟨gg this.1,gg this.2⟩
  have hsz:(ByteArray.mk l.toArray).size=l.length:=by simp [ByteArray.size]
  refine ⟨d,l,hr,⟨fun i i0 i1=>?_,?_,?_,?_,?_,a6,a7,a8⟩⟩
  ·rw [hsz] at i1
   have hlt:i.toNat<l.length:=J
   have e:=Hq l i.toNat
   rw [show (i.toNat:Int)=i by omega,fU hlt] at e
   rw [e]
   have:=hd l[i.toNat] (List.getElem_mem hlt)
   simp only [Option.getD_some];omega
  ·rw [hsz,RD l hd _ (Nat.le_refl _),List.take_length,a2]
  ·rw [hsz]
   have e:=Hq l (l.length-1)
   rw [show ((l.length-1:Nat):Int)=(l.length:Int)-1 by omega] at e
   rw [e,← List.getLast?_eq_getElem?]
   omega
  ·rw [hsz];exact a4
  ·rw [hsz];exact a5
 ·cases this
theorem Qu {K:Nat} (h:K≤60):(2:Int) ^ K≤1152921504606846976∧0<(2:Int) ^ K:=by
 have:(2:Nat) ^ K≤2 ^ 60:=Nat.pow_le_pow_right J h
 have hp:0<(2:Nat) ^ K:=Nat.pos_of_ne_zero aW
 have e:((2 ^ K:Nat):Int)=(2:Int) ^ K:=by simp
 omega
theorem abc {n K m:Nat} {c:Int} (hK:K≤60) (hn:n<2 ^ K) (h0:48≤c) (h1:c≤57) (hm:m=n+(c-48).toNat*2 ^ K) :
  IntKind.u64.wrap ((n:Int)+IntKind.u64.wrap ((c-48)*2 ^ (min (K:Int).toNat IntKind.u64.bits)))=(m:Int)∧m<18446744073709551616:=by
 have e:min (K:Int).toNat IntKind.u64.bits=K:=by
  show min (K:Int).toNat 64=K
  omega
 rw [e]
 have hp:=Qu hK
 have hp':(2:Nat) ^ K≤2 ^ 60:=Nat.pow_le_pow_right J hK
 have e2:((2 ^ K:Nat):Int)=(2:Int) ^ K:=by simp
 have bc:(c-48)=(((c-48).toNat:Nat):Int):=J
 have hc:(c-48).toNat≤9:=J
 generalize (c-48).toNat=q at *
 have b1:q*2 ^ K≤9*2 ^ 60:=Nat.mul_le_mul hc hp'
 have aN:(c-48)*2 ^ K=((q*2 ^ K:Nat):Int):=by rw [bc];simp
 rw [aN]
 generalize q*2 ^ K=z at *
 have:(2:Nat) ^ 60=1152921504606846976:=by decide
 refine ⟨?_,J⟩
 rw [iU (x:=(z:Int)) J J,iU J J]
 omega
theorem Wl {ds:List Int} {t:ByteArray} {x:Int} (h0:0≤x) (h:dv ds x.toNat=gD t x.toNat) (e:bY ds x=ad t x):dv ds (x+1).toNat=gD t (x+1).toNat:=by
 rw [show (x+1).toNat=x.toNat+1 by omega,dv,gD,h,show (x.toNat:Int)=x by omega,e]
theorem l4.step' {ds:List Int} {nd k r n m:Nat} (h:l4 ds nd k r n) (hd:ix ds nd) (hr:1≤r) (hm:m=n+(bY ds ((r:Int)-1)-48).toNat*2 ^ k):l4 ds nd k (r-1) (m / 10):=by
 obtain ⟨r,rfl⟩:∃ r',r=r'+1:=⟨r-1,J⟩
 have:=h.step hd
 rw [show ((r+1:Nat):Int)-1=(r:Int) by omega] at hm
 rw [hm];exact this
noncomputable def UH:Code:=cw [0,0,0] (cx Tryz.f241)
theorem aap (a:Nat) (ds:List Int) (N:Int) (dp:Int) (neg:Bool) (aT:Bool):∀(m:Nat) (nd:Int) (H:Z),aa E G H→(ka:H.get a=some (O (cQ ds nd dp neg aT) 281))→(hl:ds.length=800)→(n0:0≤nd)→(n1:nd≤N)→(n2:N≤800)→(cU:G.n≤a)→(hz:0<N→49≤bY ds 0→0<nd)→nd.toNat=m→
  bV E G 35 UH [(0,pt a 0)] H [a] (fun x T H'=>(x=(.exit 0)∧∃(z:Int),T=aP [(0,pt a 0)]∧(H'.get a=some (O (cQ ds z dp neg aT) 281)∧0≤z∧z≤N∧(0<N→49≤bY ds 0→0<z)))):=by
 refine dJ fun m ih=>?_
 intro nd H y ka hl n0 n1 n2 cU hz hm
 refine cN y ?_
 have rY:=y.wf.lt ka
 rcases df (decide (nd>0)) with h1 |h1
 ·have q1:=fD h1
  rcases df ((bY ds (nd-1))==48) with h2 |h2
  ·have cv:=pr h2
   obtain ⟨aU,e1⟩:∃ ao,ao=H.set a (O (cQ ds (nd-1) dp neg aT) 281):=⟨_,rfl⟩
   have y1:aa E G aU:=e1▸y.set _ J J
   have fh:=bz e1
   exact aE [am 2]<|az [bw (M nd) H] (it hl ka)<|ay 0 h1<|aE [am 4]<|az [bw (M nd) H] (it hl ka)<|aH 0 (nd-1)<|aG 2 (nd-1) (800:Int)<|az [bw (ab (bY ds (nd-1))) H] (nW (i:=(nd-1)) hl ka J J)<|ay 0 h2<|aE [am 3]<|az [bw (M nd) H] (it hl ka)<|aH 0 (nd-1)<|aB 2 (te (vL hl ka) e1)<|dY 0 [(0,(pt a 0))] aU [a] aW (ih _ J (nd-1) _ y1 fh hl J J n2 cU (fun a b=>by
    have a:=hz a b
    rcases Int.lt_or_le 1 nd with h |h
    ·omega
    ·exfalso
     have e:nd=1:=J
     subst e
     have:=cv
     simp at this
     omega) rfl)
  exact aE [am 2]<|az [bw (M nd) H] (it hl ka)<|ay 0 h1<|aE [am 4]<|az [bw (M nd) H] (it hl ka)<|aH 0 (nd-1)<|aG 2 (nd-1) (800:Int)<|az [bw (ab (bY ds (nd-1))) H] (nW (i:=(nd-1)) hl ka J J)<|ay 0 h2<|c5 1 [(0,pt a 0)] (.exit 0) H [] aL aZ ⟨rfl,nd,rfl,⟨ka,J,J,hz⟩⟩
 exact aE [am 2]<|az [bw (M nd) H] (it hl ka)<|ay 0 h1<|c5 2 [(0,pt a 0)] (.exit 0) H [] aL aZ ⟨rfl,nd,rfl,⟨ka,J,J,hz⟩⟩
theorem Bw (a:Nat) (ds:List Int) (nd:Int) (dp:Int) (neg:Bool) (aT:Bool) {H:Z} (y:aa E G H) (hl:ds.length=800) (ka:H.get a=some (O (cQ ds nd dp neg aT) 281)) (n0:0≤nd) (n2:nd≤800) (cU:G.n≤a):aV E G 241 [pt a 0] H [a] (fun v H'=>∃ z gj:Int,v=.tuple #[]∧H'.get a=some (O (cQ ds z gj neg aT) 281)∧0≤z∧z≤nd∧(0<nd→49≤bY ds 0→0<z)∧(0<z→gj=dp)):=by
 refine bB Tryz.f241 y ?_
 have rY:=y.wf.lt ka
 obtain ⟨_,_,H1,c1,ak,y1,rfl,LJ,rfl,Jg,aI,gv,j3⟩:=(aap a ds nd dp neg aT _ nd _ y ka hl n0 (Int.le_refl _) n2 cU (fun a _=>a) rfl).code
 have c8:H.n+0≤H1.n:=ak.n
 refine bx 0 c1<|aE [am 2]<|az [bw (M LJ) H1] (it hl Jg)<|aY 0 LJ 0 ?_ ?_ <;> intro h1 q1
 ·obtain ⟨aK,e2⟩:∃ ao,ao=H1.set a (O (cQ ds LJ 0 neg aT) 281):=⟨_,rfl⟩
  have mO:=bz e2
  exact aB 3 (te (qG hl Jg) e2)<|bf 0 (.tuple #[]) aK [a,a] aW aZ ⟨_,_,rfl,mO,aI,gv,j3,fun h=>by omega⟩
 exact bf 0 (.tuple #[]) H1 [a] aW aZ ⟨_,_,rfl,Jg,aI,gv,j3,fun h=>by omega⟩
noncomputable def UG:Code:=cw [1,0,1,0,0] (cx Tryz.f240)
theorem aao (a:Nat) (ds:List Int) (N:Nat) (dp:Int) (neg:Bool) (aT:Bool) (t:ByteArray):∀(m:Nat) (ah:Int) (H:Z),aa E G H→(ka:H.get a=some (O (cQ ds (N:Int) dp neg aT) 281))→(hl:ds.length=800)→(n2:N≤800)→(hd:ix ds N)→(hs:w5 t)→(hp:0<t.size)→(xF:49≤ad t ((t.size:Int)-1))→(hsz:t.size<1000)→(x0:0≤ah)→(x1:ah≤t.size)→(aC:ah≤N)→(he:dv ds ah.toNat=gD t ah.toNat)→((t.size:Int)-ah).toNat=m→
  bV E G 32 UG [(0,sc a 0 N 1601),(1,.string t),(5,M ah)] H [] (fun x T H'=>(x=(.exit 0)∧T=aP []∧(¬ Below ds N t))∨(x=.ret∧∃(z4:Bool),T=aP [(4,.bool z4)]∧((z4=true→Below ds N t)∧(z4=false→¬ Below ds N t)))):=by
 refine dJ fun m ih=>?_
 intro ah H y ka hl n2 hd hs hp xF hsz x0 x1 aC he hm
 refine cN y ?_
 refine aD 3 (ah<(t.size:Int)) ?_ ?_ <;> intro h1 q1
 ·refine aD 3 (ah≥(N:Int)) ?_ ?_ <;> intro h2 cv
  ·exact cF 1 [(4,aw)] .ret H (.inr ⟨rfl,true,rfl,⟨fun _=>Ta hs hp xF J (by rw [← (show ah.toNat=N by omega)];exact he),fun h=>by cases h⟩⟩)
  rcases df ((bY ds ah) != (ad t ah)) with h3 |h3
  ·have cY:=ME h3
   rcases df (decide ((bY ds ah)<(ad t ah))) with h4 |h4
   ·have cO:=fD h4
    exact aG 2 ah (N:Int)<|az [bw (ab (bY ds ah)) H] (nW (i:=ah) hl ka J J)<|aG 2 ah (t.size:Int)<|ay 0 h3<|aG 2 ah (N:Int)<|az [bw (ab (bY ds ah)) H] (nW (i:=ah) hl ka J J)<|aG 2 ah (t.size:Int)<|ay 0 h4<|cF 1 [(4,aw)] .ret H (.inr ⟨rfl,true,rfl,⟨fun _=>S9 (i:=ah.toNat) hd hs J J he (by rw [(show (ah.toNat:Int)=ah by omega)];exact cO),fun h=>by cases h⟩⟩)
   have cO:=fM h4
   exact aG 2 ah (N:Int)<|az [bw (ab (bY ds ah)) H] (nW (i:=ah) hl ka J J)<|aG 2 ah (t.size:Int)<|ay 0 h3<|aG 2 ah (N:Int)<|az [bw (ab (bY ds ah)) H] (nW (i:=ah) hl ka J J)<|aG 2 ah (t.size:Int)<|ay 0 h4<|cF 1 [(4,U)] .ret H (.inr ⟨rfl,false,rfl,⟨(fun h=>by cases h),fun _=>abY (i:=ah.toNat) hd hs J J he (by rw [(show (ah.toNat:Int)=ah by omega)];omega)⟩⟩)
  have cY:=MD h3
  exact aG 2 ah (N:Int)<|az [bw (ab (bY ds ah)) H] (nW (i:=ah) hl ka J J)<|aG 2 ah (t.size:Int)<|ay 0 h3<|aH 1 (ah+1)<|du 1 [(0,sc a 0 N 1601),(1,.string t),(5,M (ah+1))] H (ih _ J (ah+1) _ y ka hl n2 hd hs hp xF hsz J J J (Wl J he cY) rfl)
 exact cF 0 [] (.exit 0) H (.inl ⟨rfl,rfl,abX hd J (by rw [← (show ah.toNat=t.size by omega)];exact he)⟩)
theorem acZ (a:Nat) (ds:List Int) (N:Nat) (dp:Int) (neg:Bool) (aT:Bool) (t:ByteArray) {H:Z} (y:aa E G H) (hl:ds.length=800) (ka:H.get a=some (O (cQ ds (N:Int) dp neg aT) 281)) (n2:N≤800) (hd:ix ds N) (hs:w5 t) (hp:0<t.size) (xF:49≤ad t ((t.size:Int)-1)) (hsz:t.size<1000):aV E G 240 [sc a 0 N 1601,.string t] H [] (fun v H'=>∃ z:Bool,v=.bool z∧(z=true→Below ds N t)∧(z=false→¬ Below ds N t)):=by
 refine bB Tryz.f240 y ?_
 obtain ⟨_,_,H1,c1,ak,y1,bE⟩:=(aao a ds N dp neg aT t _ 0 _ y ka hl n2 hd hs hp xF hsz J J J rfl rfl).code
 rcases bE with ⟨rfl,rfl,aI⟩ |⟨rfl,fV,rfl,aI⟩
 ·exact bx 2 c1<|af 1 U H1 ⟨_,rfl,(fun h=>by cases h),fun _=>aI⟩
 exact bx 2 c1<|af 0 (.bool fV) H1 ⟨_,rfl,aI⟩
structure mE (dh ds:List Int) (N K:Nat) (dl:Int) (r n:Nat):Prop where
 len:ds.length=800
 inv:l4 dh N K r n
 same:∀ i:Int,0≤i→i<r→bY ds i=bY dh i
 wr:∀ i:Int,r+dl≤i→i<N+dl→i<800→48≤bY ds i∧bY ds i≤57
 z:r=0→r<N→dl=0→∃ c:Nat,n=c / 10∧(bY dh 0-48).toNat*2 ^ K≤c∧bY ds 0=((c%10:Nat):Int)+48
theorem mE.init {dh:List Int} {N K:Nat} {dl:Int} (hl:dh.length=800):mE dh dh N K dl N 0:=⟨hl,.init ..,fun _ _ _=>rfl,fun i a b c=>by omega,fun a b=>by omega⟩
theorem mE.V0 {dh ds:List Int} {N K:Nat} {dl:Int} {r n:Nat} (h:mE dh ds N K dl r n) (hd:ix dh N) (hr:0≤(r:Int)-1):48≤bY ds ((r:Int)-1)∧bY ds ((r:Int)-1)≤57:=by
 rw [h.same _ hr J]
 have:=h.inv.1
 exact hd _ hr J
theorem mE.step {dh ds:List Int} {N K:Nat} {dl:Int} {r n m:Nat} (h:mE dh ds N K dl r n) (hd:ix dh N) (hr:0≤(r:Int)-1) (h0:0≤dl) (hm:m=n+(bY ds ((r:Int)-1)-48).toNat*2 ^ K) (hw:((r-1:Nat):Int)+dl<800) :
  mE dh (ds.set (((r-1:Nat):Int)+dl).toNat (((m%10:Nat):Int)+48)) N K dl (r-1) (m / 10):=by
 have hs:=h.same _ hr J
 refine ⟨ui h.len,h.inv.step' hd J (by rw [hm,hs]),fun i a b=>?_,fun i a b c=>?_,fun a b c=>?_⟩
 ·rw [sY h.len J _ i a,if_neg J]
  exact h.same i a J
 ·rw [sY h.len J _ i J]
  split
  ·omega
  ·exact h.wr i J b c
 ·refine ⟨m,rfl,?_,?_⟩
  ·have e:(r:Int)-1=0:=J
   rw [e] at hs hm
   rw [← hs];omega
  ·rw [sY h.len J _ 0 J,if_pos J]
theorem mE.drop {dh ds:List Int} {N K:Nat} {dl:Int} {r n m:Nat} (h:mE dh ds N K dl r n) (hd:ix dh N) (hr:0≤(r:Int)-1) (h0:0≤dl) (hm:m=n+(bY ds ((r:Int)-1)-48).toNat*2 ^ K) (hw:¬ ((r-1:Nat):Int)+dl<800) :
  mE dh ds N K dl (r-1) (m / 10):=by
 have hs:=h.same _ hr J
 refine ⟨h.len,h.inv.step' hd J (by rw [hm,hs]),fun i a b=>h.same i a J,fun i a b c=>h.wr i J b c,fun a b c=>by omega⟩
structure LT (dh ds:List Int) (N:Nat) (dl:Int) (w n:Nat):Prop where
 len:ds.length=800
 le:(w:Int)≤dl
 up:n<10 ^ w
 low:1≤w→10 ^ (w-1)≤n
 wr:∀ i:Int,w≤i→i<N+dl→i<800→48≤bY ds i∧bY ds i≤57
 hd:w=0→0<dl→49≤bY ds 0
 z:dl=0→bY dh 0<bY ds 0
theorem mE.z0 {dh ds:List Int} {N K n:Nat} {dl:Int} (h:mE dh ds N K dl 0 n) (hN:1≤N) (hK:1≤K) (h1:49≤bY dh 0) (zJ:dl=0) (hn:n=0):bY dh 0<bY ds 0:=by
 obtain ⟨c,e1,e2,bc⟩:=h.z rfl J zJ
 have:(bY dh 0-48).toNat*2≤(bY dh 0-48).toNat*2 ^ K:=Nat.mul_le_mul_left _ (by
  calc 2=2 ^ 1:=rfl
   _≤2 ^ K:=Nat.pow_le_pow_right J hK)
 omega
theorem Wk {ds:List Int} {N:Nat} (hd:ix ds N) (hN:1≤N) (h1:49≤bY ds 0):10 ^ (N-1)≤dv ds N:=by
 have h:=(BB hd 1 (N-1) J).1
 rw [show 1+(N-1)=N by omega] at h
 have e:dv ds 1=(bY ds 0-48).toNat:=by simp [dv]
 rw [e] at h
 have:1*10 ^ (N-1)≤(bY ds 0-48).toNat*10 ^ (N-1):=Nat.mul_le_mul_right _ J
 omega
theorem mE.more {dh ds:List Int} {N K n delta:Nat} {s:ByteArray} (h:mE dh ds N K (delta:Int) 0 n) (c:tZ K delta s) (hd:ix dh N) (hN:1≤N) (h1:49≤bY dh 0) (hb:¬ Below dh N s):LT dh ds N delta delta n:=
 ⟨h.len,Int.le_refl _,h.inv.up c,fun _=>h.inv.more c hb,fun i a b d=>h.wr i J b d,fun a b=>by omega,fun a=>by have:=c.d1;omega⟩
theorem mE.less {dh ds:List Int} {N K n delta:Nat} {s:ByteArray} (h:mE dh ds N K ((delta:Int)-1) 0 n) (c:tZ K delta s) (hd:ix dh N) (hN:1≤N) (hK:1≤K) (h1:49≤bY dh 0) (hb:Below dh N s):LT dh ds N ((delta:Int)-1) (delta-1) n:=
 ⟨h.len,by have:=c.d1;omega,h.inv.less c hb,fun hw=>by
   have:=h.inv.aaO c (Wk hd hN h1) hN J
   rwa [show delta-1-1=delta-2 by omega],
  fun i a b d=>h.wr i (by have:=c.d1;omega) b d,fun a b=>by omega,fun a=>h.z0 hN hK h1 a (by
   have:=h.inv.less c hb
   rw [show delta-1=0 by omega] at this
   omega)⟩
theorem LT.pos {dh ds:List Int} {N w n:Nat} {dl:Int} (h:LT dh ds N dl w n) (hn:0<n):1≤w:=by
 rcases Nat.eq_zero_or_pos w with e |e
 ·subst e;have:=h.up;omega
 ·exact e
theorem LT.zero {dh ds:List Int} {N w:Nat} {dl:Int} (h:LT dh ds N dl w 0):w=0:=by
 rcases Nat.eq_zero_or_pos w with e |e
 ·exact e
 ·have h1:=h.low e
  have:0<10 ^ (w-1):=Nat.pos_of_ne_zero aW
  omega
theorem LT.step {dh ds:List Int} {N w n:Nat} {dl:Int} (h:LT dh ds N dl w n) (hn:0<n) (zJ:dl≤19):LT dh (ds.set ((w-1:Nat):Int).toNat (((n%10:Nat):Int)+48)) N dl (w-1) (n / 10):=by
 have hw:=h.pos hn
 have hle:=h.le
 have hp:10 ^ w=10 ^ (w-1)*10:=by rw [← Nat.pow_succ];congr 1;omega
 have hu:=h.up
 have hlo:=h.low hw
 refine ⟨ui h.len,J,J,fun h1=>?_,fun i a b c=>?_,fun a b=>?_,fun a=>by omega⟩
 ·have oG:10 ^ (w-1)=10 ^ (w-1-1)*10:=by rw [← Nat.pow_succ];congr 1;omega
  omega
 ·rw [sY h.len J _ i J]
  split
  ·omega
  ·exact h.wr i J b c
 ·rw [sY h.len J _ 0 J,if_pos J]
  have e:w=1:=J
  subst e
  simp at hu hlo
  omega
theorem LT.afj {dh ds:List Int} {N w n:Nat} {dl x:Int} (h:LT dh ds N dl w n) (hx:x=(w:Int)) (hn:(n:Int)>0) (zJ:dl≤19):LT dh (ds.set (x-1).toNat (((n%10:Nat):Int)+48)) N dl (w-1) (n / 10):=by
 have hw:=h.pos J
 rw [show (x-1).toNat=((w-1:Nat):Int).toNat by omega]
 exact h.step J zJ
theorem LT.done {dh ds:List Int} {N w n:Nat} {dl:Int} (h:LT dh ds N dl w n) (hn:¬ (n:Int)>0):LT dh ds N dl 0 0:=by
 have e:n=0:=J
 subst e
 have e:=h.zero
 subst e
 exact h
theorem RS {n d:Nat} (h:n<10 ^ d) (hd:d≤19):n<18446744073709551616:=by
 have:10 ^ d≤10 ^ 19:=Nat.pow_le_pow_right J hd
 omega
theorem LT.fin {dh ds:List Int} {N:Nat} {dl:Int} (h:LT dh ds N dl 0 0) (h1:49≤bY dh 0):49≤bY ds 0∧(∀ m:Int,m≤N+dl→m≤800→ix ds m)∧(0<dl∨dl=0∧bY dh 0<bY ds 0):=by
 have hle:=h.le
 refine ⟨?_,fun m a b i c d=>h.wr i J J J,?_⟩
 ·rcases Int.lt_or_le 0 dl with e |e
  ·exact h.hd rfl e
  ·have:=h.z J;omega
 ·rcases Int.lt_or_le 0 dl with e |e
  ·exact .inl e
  ·exact .inr ⟨J,h.z J⟩
theorem tZ.d19 {k delta:Nat} {s:ByteArray} (c:tZ k delta s) (hk:k≤60):delta≤19:=by
 rcases Nat.lt_or_ge 19 delta with h |h
 ·exfalso
  have h1:=c.low
  have h2:10 ^ 19≤10 ^ (delta-1):=Nat.pow_le_pow_right J J
  have h3:2 ^ k≤2 ^ 60:=Nat.pow_le_pow_right J hk
  have:(2:Nat) ^ 60<10 ^ 19:=by decide
  omega
 ·exact h
noncomputable def UA:Code:=cw [1,1,1,1,1,0,1,0,0] (cx Tryz.f233)
theorem OS (a:Nat) (dh:List Int) (N:Nat) (K:Nat) (dl:Int) (dp:Int) (neg:Bool):∀(m:Nat) (ds:List Int) (aT:Bool) (r:Nat) (n:Nat) (H:Z),aa E G H→(ka:H.get a=some (O (cQ ds (N:Int) dp neg aT) 281))→(h:mE dh ds N K dl r n)→(hd:ix dh (N:Int))→(hN:N≤800)→(gA:K≤60)→(h0:0≤dl)→(vO:dl≤19)→(cU:G.n≤a)→r=m→
  bV E G 137 UA [(0,pt a 0),(1,ap (K:Int)),(4,M dl),(5,M ((r:Int)-1)),(6,M ((r:Int)+dl)),(7,ap (n:Int))] H [a] (fun x T H'=>(x=(.exit 0)∧∃(ic:List Int) (zt:Bool) (ie:Nat),T=aP [(0,pt a 0),(4,M dl),(6,M dl),(7,ap (ie:Int))]∧(H'.get a=some (O (cQ ic (N:Int) dp neg zt) 281)∧mE dh ic N K dl 0 ie))):=by
 refine dJ fun m ih=>?_
 intro ds aT r n H y ka h hd hN gA h0 vO cU hm
 have hr:=h.inv.1
 refine cN y ?_
 have rY:=y.wf.lt ka
 refine aD 1 (((r:Int)-1)≥0) ?_ ?_ <;> intro h1 q1
 ·have hg:=h.V0 hd J
  have w1:((ap (IntKind.u64.wrap (bY ds ((r:Int)-1)))):Value)=(ap (bY ds ((r:Int)-1))):=(by rw [iU J J])
  have w2:((ap (IntKind.u64.wrap ((bY ds ((r:Int)-1))-48))):Value)=(ap ((bY ds ((r:Int)-1))-48)):=(by rw [iU J J])
  obtain ⟨m,hm⟩:∃ m:Nat,m=n+(bY ds ((r:Int)-1)-48).toNat*2 ^ K:=⟨_,rfl⟩
  obtain ⟨XZ,hm2⟩:=abc gA h.inv.lt hg.1 hg.2 hm
  have w3:((ap (IntKind.u64.wrap ((n:Int)+(IntKind.u64.wrap (((bY ds ((r:Int)-1))-48)*2 ^ (min (K:Int).toNat IntKind.u64.bits)))))):Value)=(ap (m:Int)):=(by rw [XZ])
  have rc:((ap (IntKind.u64.wrap (Int.tdiv (m:Int) 10))):Value)=(ap ((m / 10:Nat):Int)):=(by rw [RJ (x:=(m:Int)) J,iU J J] <;> congr 1)
  have yI:((ap (IntKind.u64.wrap (10*((m / 10:Nat):Int)))):Value)=(ap (10*((m / 10:Nat):Int))):=(by rw [iU J J])
  have DA:((ap (IntKind.u64.wrap ((m:Int)-(10*((m / 10:Nat):Int))))):Value)=(ap ((m%10:Nat):Int)):=(by rw [iU J J] <;> congr 1 <;> omega)
  have Lr:((M (IntKind.i64.wrap (((r:Int)+dl)-1))):Value)=(M (((r-1:Nat):Int)+dl)):=(by rw [nE J J] <;> congr 1 <;> omega)
  refine aG 5 ((r:Int)-1) (800:Int)<|az [bw (ab (bY ds ((r:Int)-1))) H] (nW (i:=((r:Int)-1)) h.len ka J J)<|az [.as (ap (bY ds ((r:Int)-1)))] w1<|az [.as (ap ((bY ds ((r:Int)-1))-48))] w2<|aE [am 0]<|az [.ax] (by omega:0≤(K:Int))<|az [.as (ap (m:Int))] w3<|aE [am 1]<|az [.as (ap ((m / 10:Nat):Int))] rc<|aE [am 2]<|az [.as (ap (10*((m / 10:Nat):Int)))] yI<|az [.as (ap ((m%10:Nat):Int))] DA<|aE [am 1]<|az [.as (M (((r-1:Nat):Int)+dl))] Lr<|aD 2 ((((r-1:Nat):Int)+dl)<800) ?_ ?_ <;> intro h2 cv
  ·have tT:((ap (IntKind.u64.wrap (((m%10:Nat):Int)+48))):Value)=(ap (((m%10:Nat):Int)+48)):=(by rw [iU J J])
   have agE:((ab (IntKind.u8.wrap (((m%10:Nat):Int)+48))):Value)=(ab (((m%10:Nat):Int)+48)):=(by rw [GP J J])
   obtain ⟨aU,e1⟩:∃ ao,ao=H.set a (O (cQ (ds.set (((r-1:Nat):Int)+dl).toNat (((m%10:Nat):Int)+48)) (N:Int) dp neg aT) 281):=⟨_,rfl⟩
   have y1:aa E G aU:=e1▸y.set _ J J
   have fh:=bz e1
   have agD:((M (IntKind.i64.wrap (((r:Int)-1)-1))):Value)=(M (((r-1:Nat):Int)-1)):=(by rw [nE J J] <;> congr 1 <;> omega)
   exact aE [am 2]<|az [.as (ap (((m%10:Nat):Int)+48))] tT<|az [.as (ab (((m%10:Nat):Int)+48))] agE<|aG 2 (((r-1:Nat):Int)+dl) (800:Int)<|aB 0 (te (zw h.len ka J J) e1)<|aE [am 2]<|az [.as (M (((r-1:Nat):Int)-1))] agD<|dY 1 [(0,pt a 0),(1,ap (K:Int)),(4,M dl),(5,M (((r-1:Nat):Int)-1)),(6,M (((r-1:Nat):Int)+dl)),(7,ap ((m / 10:Nat):Int))] aU [a] aW (ih _ J (ds.set (((r-1:Nat):Int)+dl).toNat (((m%10:Nat):Int)+48)) aT (r-1) (m / 10) _ y1 fh (h.step hd J h0 hm J) hd hN gA h0 vO cU rfl)
  refine d7 1 ((m%10:Nat):Int) 0 ?_ ?_ <;> intro h3 cY
  ·obtain ⟨aU,e1⟩:∃ ao,ao=H.set a (O (cQ ds (N:Int) dp neg true) 281):=⟨_,rfl⟩
   have y1:aa E G aU:=e1▸y.set _ J J
   have fh:=bz e1
   have tT:((M (IntKind.i64.wrap (((r:Int)-1)-1))):Value)=(M (((r-1:Nat):Int)-1)):=(by rw [nE J J] <;> congr 1 <;> omega)
   exact aB 3 (te (BA h.len ka) e1)<|aE [am 2]<|az [.as (M (((r-1:Nat):Int)-1))] tT<|dY 1 [(0,pt a 0),(1,ap (K:Int)),(4,M dl),(5,M (((r-1:Nat):Int)-1)),(6,M (((r-1:Nat):Int)+dl)),(7,ap ((m / 10:Nat):Int))] aU [a] aW (ih _ J ds true (r-1) (m / 10) _ y1 fh (h.drop hd J h0 hm J) hd hN gA h0 vO cU rfl)
  have tT:((M (IntKind.i64.wrap (((r:Int)-1)-1))):Value)=(M (((r-1:Nat):Int)-1)):=(by rw [nE J J] <;> congr 1 <;> omega)
  exact aE [am 2]<|az [.as (M (((r-1:Nat):Int)-1))] tT<|du 1 [(0,pt a 0),(1,ap (K:Int)),(4,M dl),(5,M (((r-1:Nat):Int)-1)),(6,M (((r-1:Nat):Int)+dl)),(7,ap ((m / 10:Nat):Int))] H (ih _ J ds aT (r-1) (m / 10) _ y ka (h.drop hd J h0 hm J) hd hN gA h0 vO cU rfl)
 exact c5 0 [(0,pt a 0),(4,M dl),(6,M ((r:Int)+dl)),(7,ap (n:Int))] (.exit 0) H [] aL aZ ⟨rfl,ds,aT,n,(by rw [show (r:Int)+dl=dl by omega]),⟨ka,(show r=0 by omega)▸h⟩⟩
noncomputable def UB:Code:=cw [1,1,1,1,1,1,0,0,0] (cx Tryz.f233)
theorem OT (a:Nat) (dh:List Int) (N:Nat) (dl:Int) (dp:Int) (neg:Bool):∀(m:Nat) (bD:Int) (ds:List Int) (aT:Bool) (w:Nat) (n:Nat) (H:Z),aa E G H→(ka:H.get a=some (O (cQ ds (N:Int) dp neg aT) 281))→(h:LT dh ds N dl w n)→(hx:bD=(w:Int))→(vO:dl≤19)→(hn:n<18446744073709551616)→(cU:G.n≤a)→n=m→
  bV E G 137 UB [(0,pt a 0),(4,M dl),(6,M bD),(7,ap (n:Int))] H [a] (fun x T H'=>(x=(.exit 2)∧∃(ic:List Int) (zt:Bool),T=aP [(0,pt a 0),(4,M dl)]∧(H'.get a=some (O (cQ ic (N:Int) dp neg zt) 281)∧LT dh ic N dl 0 0))):=by
 refine dJ fun m ih=>?_
 intro bD ds aT w n H y ka h hx vO hn cU hm
 have hle:=h.le
 have hpos:=h.pos
 refine cN y ?_
 have rY:=y.wf.lt ka
 refine aD 1 ((n:Int)>0) ?_ ?_ <;> intro h1 q1
 ·have w1:((ap (IntKind.u64.wrap (Int.tdiv (n:Int) 10))):Value)=(ap ((n / 10:Nat):Int)):=(by rw [RJ (x:=(n:Int)) J,iU J J] <;> congr 1)
  have w2:((ap (IntKind.u64.wrap (10*((n / 10:Nat):Int)))):Value)=(ap (10*((n / 10:Nat):Int))):=(by rw [iU J J])
  have w3:((ap (IntKind.u64.wrap ((n:Int)-(10*((n / 10:Nat):Int))))):Value)=(ap ((n%10:Nat):Int)):=(by rw [iU J J] <;> congr 1 <;> omega)
  have rc:((ap (IntKind.u64.wrap (((n%10:Nat):Int)+48))):Value)=(ap (((n%10:Nat):Int)+48)):=(by rw [iU J J])
  have yI:((ab (IntKind.u8.wrap (((n%10:Nat):Int)+48))):Value)=(ab (((n%10:Nat):Int)+48)):=(by rw [GP J J])
  obtain ⟨aU,e1⟩:∃ ao,ao=H.set a (O (cQ (ds.set (bD-1).toNat (((n%10:Nat):Int)+48)) (N:Int) dp neg aT) 281):=⟨_,rfl⟩
  have y1:aa E G aU:=e1▸y.set _ J J
  have fh:=bz e1
  exact aE [am 0]<|az [.as (ap ((n / 10:Nat):Int))] w1<|aE [am 2]<|az [.as (ap (10*((n / 10:Nat):Int)))] w2<|az [.as (ap ((n%10:Nat):Int))] w3<|aH 2 (bD-1)<|ay 2 (decide_eq_true J:(decide ((bD-1)<800))=true)<|aE [am 2]<|az [.as (ap (((n%10:Nat):Int)+48))] rc<|az [.as (ab (((n%10:Nat):Int)+48))] yI<|aG 2 (bD-1) (800:Int)<|aB 0 (te (zw h.len ka J J) e1)<|dY 2 [(0,pt a 0),(4,M dl),(6,M (bD-1)),(7,ap ((n / 10:Nat):Int))] aU [a] aW (ih _ J (bD-1) (ds.set (bD-1).toNat (((n%10:Nat):Int)+48)) aT (w-1) (n / 10) _ y1 fh (h.afj hx J vO) J vO J cU rfl)
 exact c5 0 [(0,pt a 0),(4,M dl)] (.exit 2) H [] aL aZ ⟨rfl,ds,aT,rfl,⟨ka,h.done J⟩⟩
theorem aaK (a:Nat) (dh:List Int) (N:Nat) (K:Nat) (dp:Int) (neg:Bool) (aT:Bool) {H:Z} (y:aa E G H) (hl:dh.length=800) (ka:H.get a=some (O (cQ dh (N:Int) dp neg aT) 281)) (hd:ix dh (N:Int)) (vQ:1≤N) (lJ:N≤800) (Ew:1≤K) (gA:K≤60) (kQ:49≤bY dh 0) (cU:G.n≤a) (nZ:-1000000000000<dp) (jZ:dp<1000000000000):aV E G 233 [pt a 0,ap (K:Int)] H [a] (fun v H'=>∃(ds':List Int) (gl gj:Int) (o0:Bool),v=.tuple #[]∧H'.get a=some (O (cQ ds' gl gj neg o0) 281)∧ds'.length=800∧ix ds' gl∧1≤gl∧gl≤800∧49≤bY ds' 0∧(dp<gj∨gj=dp∧bY dh 0<bY ds' 0)∧gj≤dp+19):=by
 refine bB Tryz.f233 y ?_
 have gn:=iY
 have rY:=y.wf.lt ka
 obtain ⟨delta,l,hk,ch⟩:=T2 Ew gA
 have ahU:=ch.d1
 have ahZ:=ch.d19 gA
 obtain ⟨_,H1,c1,ak,y1,pb,rfl,b7,hb0⟩:=acZ a dh N dp neg aT _ y hl ka lJ hd ch.lH ch.pos ch.last (by have:=ch.size;omega)
 have c8:H.n+0≤H1.n:=ak.n
 refine Y 0 (ag 0 Ma (L1 y))<|aG 1 (K:Int) (61:Int)<|Y 1 (cH av (L2 y) (T3 hk):al E 3 29 (0+(K:Int).toNat*2) H=some (M (delta:Int)))<|aE [am 0]<|aE [am 5]<|az [bw (M (N:Int)) H] (it hl ka)<|gY 0 H (ae1 af8 oe J J J:pJ E 279 (pt a 0) (some (M 0)) (some (M (N:Int))) none=some (sc a 0 N 1601))<|Y 0 (ag 0 Ma (L1 y))<|aG 1 (K:Int) (61:Int)<|Y 1 (cH bA (L2 y) (T4 hk):al E 9 29 ((0+(K:Int).toNat*2)+1) H=some (.string (⟨l.toArray⟩:ByteArray)))<|ac 0 c1<|?_
 cases pb with
 |true=>
  have fh:=y.kept ak aq ka
  obtain ⟨_,_,H2,c2,aF,ar,rfl,pT,pV,pU,rfl,Jh,n3⟩:=(OS a dh N K ((delta:Int)-1) dp neg _ dh aT N 0 _ y1 fh (.init hl) hd lJ gA J J cU rfl).code
  have cB:H1.n+0≤H2.n:=aF.n
  have ht:=n3.less ch hd vQ Ew kQ (b7 rfl)
  have hlt:=ht.up
  obtain ⟨_,_,H3,c3,bq,aM,rfl,nJ,o7,rfl,x2,jQ⟩:=(OT a dh N ((delta:Int)-1) dp neg _ ((delta:Int)-1) pT pV (delta-1) pU _ ar Jh ht J J (RS hlt J) cU rfl).code
  have ek:H2.n+0≤H3.n:=bq.n
  have hf:=jQ.fin kQ
  obtain ⟨b6,aN⟩:∃ ao,ao=H3.set a (O (cQ nJ ((N:Int)+((delta:Int)-1)) dp neg o7) 281):=⟨_,rfl⟩
  have cu:aa E G b6:=aN▸aM.set _ J J
  have gm:b6.n=H3.n+0:=by rw [aN,Z.cI] <;> rfl
  have uD:=bz aN
  refine aH 1 ((delta:Int)-1)<|aE [am 3]<|az [bw (M (N:Int)) H1] (it hl fh)<|aE [am 3]<|az [bw (M (N:Int)) H1] (it hl fh)<|aH 1 ((N:Int)+((delta:Int)-1))<|aH 3 ((N:Int)-1)<|bx 1 c2<|bx 0 c3<|aE [am 2]<|az [bw (M (N:Int)) H3] (it jQ.len x2)<|aH 1 ((N:Int)+((delta:Int)-1))<|aB 2 (te (vL jQ.len x2) aN)<|aE [am 2]<|az [bw (M ((N:Int)+((delta:Int)-1))) b6] (it jQ.len uD)<|aD 0 (((N:Int)+((delta:Int)-1))≥800) ?_ ?_ <;> intro h2 cv
  ·obtain ⟨d6,bJ⟩:∃ ao,ao=b6.set a (O (cQ nJ 800 dp neg o7) 281):=⟨_,rfl⟩
   have dQ:aa E G d6:=bJ▸cu.set _ J J
   have iR:d6.n=b6.n+0:=by rw [bJ,Z.cI] <;> rfl
   have qg:=bz bJ
   obtain ⟨gV,eF⟩:∃ ao,ao=d6.set a (O (cQ nJ 800 (dp+((delta:Int)-1)) neg o7) 281):=⟨_,rfl⟩
   have gN:aa E G gV:=eF▸dQ.set _ J J
   have Jd:=bz eF
   obtain ⟨_,mD,ov,og,oh,tz,tp,rfl,kt,t0,t1,t2,t3⟩:=Bw a nJ 800 (dp+((delta:Int)-1)) neg o7 gN jQ.len Jd J J cU
   exact aB 3 (te (vL jQ.len uD) bJ)<|aE [am 2]<|az [bw (M dp) d6] (jN jQ.len qg)<|aH 1 (dp+((delta:Int)-1))<|aB 2 (te (qG jQ.len qg) eF)<|ac 1 ov<|bf 0 (.tuple #[]) mD (C9 a) aW aZ ⟨_,_,_,_,rfl,kt,jQ.len,hf.2.1 _ J J,(by have:=t2 J hf.1;omega),J,hf.1,(by have:=t2 J hf.1;have:=t3 this;have:=hf.2.2;omega),(by have:=t2 J hf.1;have:=t3 this;omega)⟩
  obtain ⟨d6,bJ⟩:∃ ao,ao=b6.set a (O (cQ nJ ((N:Int)+((delta:Int)-1)) (dp+((delta:Int)-1)) neg o7) 281):=⟨_,rfl⟩
  have dQ:aa E G d6:=bJ▸cu.set _ J J
  have qg:=bz bJ
  obtain ⟨_,gF,jd,iW,gN,tz,tp,rfl,kt,t0,t1,t2,t3⟩:=Bw a nJ ((N:Int)+((delta:Int)-1)) (dp+((delta:Int)-1)) neg o7 dQ jQ.len qg J J cU
  exact aE [am 2]<|az [bw (M dp) b6] (jN jQ.len uD)<|aH 1 (dp+((delta:Int)-1))<|aB 2 (te (qG jQ.len uD) bJ)<|ac 1 jd<|bf 0 (.tuple #[]) gF (vc a) aW aZ ⟨_,_,_,_,rfl,kt,jQ.len,hf.2.1 _ J J,(by have:=t2 J hf.1;omega),J,hf.1,(by have:=t2 J hf.1;have:=t3 this;have:=hf.2.2;omega),(by have:=t2 J hf.1;have:=t3 this;omega)⟩
 |false=>
  have fh:=y.kept ak aq ka
  obtain ⟨_,_,H2,c2,aF,ar,rfl,pT,pV,pU,rfl,Jh,n3⟩:=(OS a dh N K (delta:Int) dp neg _ dh aT N 0 _ y1 fh (.init hl) hd lJ gA J J cU rfl).code
  have cB:H1.n+0≤H2.n:=aF.n
  have ht:=n3.more ch hd vQ kQ (hb0 rfl)
  have hlt:=ht.up
  obtain ⟨_,_,H3,c3,bq,aM,rfl,nJ,o7,rfl,x2,jQ⟩:=(OT a dh N (delta:Int) dp neg _ (delta:Int) pT pV delta pU _ ar Jh ht J J (RS hlt J) cU rfl).code
  have ek:H2.n+0≤H3.n:=bq.n
  have hf:=jQ.fin kQ
  obtain ⟨b6,aN⟩:∃ ao,ao=H3.set a (O (cQ nJ ((N:Int)+(delta:Int)) dp neg o7) 281):=⟨_,rfl⟩
  have cu:aa E G b6:=aN▸aM.set _ J J
  have gm:b6.n=H3.n+0:=by rw [aN,Z.cI] <;> rfl
  have uD:=bz aN
  refine aE [am 2]<|az [bw (M (N:Int)) H1] (it hl fh)<|aE [am 3]<|az [bw (M (N:Int)) H1] (it hl fh)<|aH 1 ((N:Int)+(delta:Int))<|aH 3 ((N:Int)-1)<|bx 1 c2<|bx 0 c3<|aE [am 2]<|az [bw (M (N:Int)) H3] (it jQ.len x2)<|aH 1 ((N:Int)+(delta:Int))<|aB 2 (te (vL jQ.len x2) aN)<|aE [am 2]<|az [bw (M ((N:Int)+(delta:Int))) b6] (it jQ.len uD)<|aD 0 (((N:Int)+(delta:Int))≥800) ?_ ?_ <;> intro h2 cv
  ·obtain ⟨d6,bJ⟩:∃ ao,ao=b6.set a (O (cQ nJ 800 dp neg o7) 281):=⟨_,rfl⟩
   have dQ:aa E G d6:=bJ▸cu.set _ J J
   have iR:d6.n=b6.n+0:=by rw [bJ,Z.cI] <;> rfl
   have qg:=bz bJ
   obtain ⟨gV,eF⟩:∃ ao,ao=d6.set a (O (cQ nJ 800 (dp+(delta:Int)) neg o7) 281):=⟨_,rfl⟩
   have gN:aa E G gV:=eF▸dQ.set _ J J
   have Jd:=bz eF
   obtain ⟨_,mD,ov,og,oh,tz,tp,rfl,kt,t0,t1,t2,t3⟩:=Bw a nJ 800 (dp+(delta:Int)) neg o7 gN jQ.len Jd J J cU
   exact aB 3 (te (vL jQ.len uD) bJ)<|aE [am 2]<|az [bw (M dp) d6] (jN jQ.len qg)<|aH 1 (dp+(delta:Int))<|aB 2 (te (qG jQ.len qg) eF)<|ac 1 ov<|bf 0 (.tuple #[]) mD (C9 a) aW aZ ⟨_,_,_,_,rfl,kt,jQ.len,hf.2.1 _ J J,(by have:=t2 J hf.1;omega),J,hf.1,(by have:=t2 J hf.1;have:=t3 this;have:=hf.2.2;omega),(by have:=t2 J hf.1;have:=t3 this;omega)⟩
  obtain ⟨d6,bJ⟩:∃ ao,ao=b6.set a (O (cQ nJ ((N:Int)+(delta:Int)) (dp+(delta:Int)) neg o7) 281):=⟨_,rfl⟩
  have dQ:aa E G d6:=bJ▸cu.set _ J J
  have qg:=bz bJ
  obtain ⟨_,gF,jd,iW,gN,tz,tp,rfl,kt,t0,t1,t2,t3⟩:=Bw a nJ ((N:Int)+(delta:Int)) (dp+(delta:Int)) neg o7 dQ jQ.len qg J J cU
  exact aE [am 2]<|az [bw (M dp) b6] (jN jQ.len uD)<|aH 1 (dp+(delta:Int))<|aB 2 (te (qG jQ.len uD) bJ)<|ac 1 jd<|bf 0 (.tuple #[]) gF (vc a) aW aZ ⟨_,_,_,_,rfl,kt,jQ.len,hf.2.1 _ J J,(by have:=t2 J hf.1;omega),J,hf.1,(by have:=t2 J hf.1;have:=t3 this;have:=hf.2.2;omega),(by have:=t2 J hf.1;have:=t3 this;omega)⟩
theorem My {K:Nat} (hK:K≤60):min (K:Int).toNat IntKind.u64.bits=K:=by
 show min (K:Int).toNat 64=K
 omega
theorem yl {K:Nat} (hK:K≤60):2 ^ K≤1152921504606846976∧0<2 ^ K:=by
 have:(2:Nat) ^ K≤2 ^ 60:=Nat.pow_le_pow_right J hK
 exact ⟨J,Nat.pos_of_ne_zero aW⟩
theorem Gq {n K:Nat} (hK:K≤60):Int.fdiv (n:Int) (2 ^ (min (K:Int).toNat IntKind.u64.bits))=((n / 2 ^ K:Nat):Int):=by
 rw [My hK,Int.fdiv_eq_ediv_of_nonneg _ (by have:=Qu hK;omega)]
 simp
theorem K1 {n K:Nat} (hK:K≤60) (h:Int.fdiv (n:Int) (2 ^ (min (K:Int).toNat IntKind.u64.bits))=0):n<2 ^ K∧n<1152921504606846976:=by
 rw [Gq hK] at h
 have hp:=yl hK
 have h:n / 2 ^ K=0:=J
 have:=(Nat.div_eq_zero_iff_lt hp.2).1 h
 exact ⟨this,J⟩
theorem Ro {n K:Nat} (hK:K≤60) (h:Int.fdiv (n:Int) (2 ^ (min (K:Int).toNat IntKind.u64.bits))≠0):2 ^ K≤n:=by
 rw [Gq hK] at h
 rcases Nat.lt_or_ge n (2 ^ K) with h1 |h1
 ·rw [Nat.div_eq_of_lt h1] at h;exact absurd rfl h
 ·exact h1
theorem abi {K:Nat} (hK:K≤60):IntKind.u64.wrap (IntKind.u64.wrap (1*2 ^ (min (K:Int).toNat IntKind.u64.bits))-1)=((2 ^ K-1:Nat):Int):=by
 rw [My hK]
 have hp:=yl hK
 have e:(1:Int)*2 ^ K=((2 ^ K:Nat):Int):=by simp
 rw [e,iU (x:=((2 ^ K:Nat):Int)) J J,iU J J]
 omega
theorem Mk {n K:Nat} (hK:K≤60) (hn:n<18446744073709551616):IntKind.u64.wrap (((BitVec.ofInt 64 (n:Int) &&& BitVec.ofInt 64 ((2 ^ K-1:Nat):Int)).toNat:Nat):Int)=((n%2 ^ K:Nat):Int):=by
 have hp:=yl hK
 have e1:(BitVec.ofInt 64 (n:Int)).toNat=n:=by
  rw [BitVec.ofInt_natCast,BitVec.toNat_ofNat];exact Nat.mod_eq_of_lt hn
 have e2:(BitVec.ofInt 64 ((2 ^ K-1:Nat):Int)).toNat=2 ^ K-1:=by
  rw [BitVec.ofInt_natCast,BitVec.toNat_ofNat];exact Nat.mod_eq_of_lt J
 rw [BitVec.toNat_and,e1,e2,Nat.and_two_pow_sub_one_eq_mod]
 have:n%2 ^ K<2 ^ K:=Nat.mod_lt _ hp.2
 rw [iU J J]
structure ua (dh ds:List Int) (N K gR:Nat) (r w:Int) (n:Nat):Prop where
 len:ds.length=800
 lt:n<10*2 ^ K
 w0:0≤w
 wr:w+1≤r
 agF:w≤N
 same:∀ i:Int,r≤i→i<N→bY ds i=bY dh i
 lH:ix ds w
 f:w=0→n=gR∧2 ^ K≤n
 g:1≤w→bY ds 0=((gR / 2 ^ K:Nat):Int)+48
theorem ua.init {dh:List Int} {N K gR:Nat} {r:Int} (hl:dh.length=800) (h1:gR<10*2 ^ K) (h2:2 ^ K≤gR) (hr:1≤r):ua dh dh N K gR r 0 gR:=
 ⟨hl,h1,J,J,J,fun _ _ _=>rfl,fun i a b=>by omega,fun _=>⟨rfl,h2⟩,fun h=>by omega⟩
theorem Eg {n K:Nat} (h:n<10*2 ^ K):n / 2 ^ K≤9:=by
 have hp:0<2 ^ K:=Nat.pos_of_ne_zero aW
 have:=(Nat.div_lt_iff_lt_mul hp).2 h
 omega
theorem ua.step {dh ds:List Int} {N K gR n m:Nat} {r w:Int} (h:ua dh ds N K gR r w n) (hd:ix dh N) (hN:N≤800) (hr:r<N) (hm:(m:Int)=((n%2 ^ K:Nat):Int)*10+bY ds r-48) :
  ua dh (ds.set w.toNat (((n / 2 ^ K:Nat):Int)+48)) N K gR (r+1) (w+1) m:=by
 have h0:=h.w0
 have h1:=h.wr
 have hs:=h.same r J hr
 have hg:=hd r J hr
 have h9:=Eg h.lt
 have hq:(0:Int)≤((n / 2 ^ K:Nat):Int):=Int.natCast_nonneg _
 refine ⟨ui h.len,J,J,J,J,fun i a b=>?_,h.lH.set h.len h0 J J J,fun e=>by omega,fun _=>?_⟩
 ·rw [sY h.len J _ i J,if_neg J]
  exact h.same i J b
 ·rw [sY h.len J _ 0 J]
  split
  ·rw [(h.f J).1]
  ·exact h.g J
structure pY (ds:List Int) (K gR:Nat) (w:Int) (n j:Nat):Prop where
 len:ds.length=800
 lt:n<10*2 ^ K
 w0:0≤w
 tT:w≤800
 lH:ix ds w
 f:w=0→n=gR∧2 ^ K≤n
 g:1≤w→bY ds 0=((gR / 2 ^ K:Nat):Int)+48
 dvd:2 ^ j ∣ n
 Zd:j≤K+1
 last:j=K+1→n=0
theorem ua.af0 {dh ds:List Int} {N K gR n:Nat} {r w:Int} (h:ua dh ds N K gR r w n) (hN:N≤800):pY ds K gR w n 0:=
 ⟨h.len,h.lt,h.w0,by have:=h.agF;omega,h.lH,h.f,h.g,by simp,J,fun e=>by omega⟩
theorem pY.rest {ds:List Int} {K gR n j:Nat} {w:Int} (h:pY ds K gR w n j) (hn:(n:Int)>0):(n%2 ^ K*10)<10*2 ^ K∧2 ^ (j+1) ∣ n%2 ^ K*10∧j+1≤K+1∧(j+1=K+1→n%2 ^ K*10=0):=by
 have hp:0<2 ^ K:=Nat.pos_of_ne_zero aW
 have hmod:n%2 ^ K<2 ^ K:=Nat.mod_lt _ hp
 have hj:j≤K:=by
  rcases Nat.lt_or_ge K j with e |e
  ·have:=h.last (by have:=h.Zd;omega);omega
  ·exact e
 have hd:2 ^ j ∣ n%2 ^ K:=(Nat.dvd_mod_iff (Nat.pow_dvd_pow 2 hj)).2 h.dvd
 refine ⟨J,?_,J,fun e=>?_⟩
 ·rw [Nat.pow_succ]
  exact Nat.mul_dvd_mul hd ⟨5,rfl⟩
 ·have e:j=K:=J
  subst e
  have:=Nat.mod_eq_zero_of_dvd h.dvd
  omega
theorem pY.step {ds:List Int} {K gR n j:Nat} {w:Int} (h:pY ds K gR w n j) (hn:(n:Int)>0) (hw:w<800):pY (ds.set w.toNat (((n / 2 ^ K:Nat):Int)+48)) K gR (w+1) (n%2 ^ K*10) (j+1):=by
 obtain ⟨a1,a2,a3,a4⟩:=h.rest hn
 have h0:=h.w0
 have h9:=Eg h.lt
 have hq:(0:Int)≤((n / 2 ^ K:Nat):Int):=Int.natCast_nonneg _
 refine ⟨ui h.len,a1,J,J,h.lH.set h.len h0 hw J J,fun e=>by omega,fun _=>?_,a2,a3,a4⟩
 rw [sY h.len J _ 0 J]
 split
 ·rw [(h.f J).1]
 ·exact h.g J
theorem pY.drop {ds:List Int} {K gR n j:Nat} {w:Int} (h:pY ds K gR w n j) (hn:(n:Int)>0) (hw:¬ w<800):pY ds K gR w (n%2 ^ K*10) (j+1):=by
 obtain ⟨a1,a2,a3,a4⟩:=h.rest hn
 exact ⟨h.len,a1,h.w0,h.tT,h.lH,fun e=>by omega,h.g,a2,a3,a4⟩
theorem pY.fin {ds:List Int} {K gR n j:Nat} {w:Int} (h:pY ds K gR w n j) (hn:¬ (n:Int)>0) (h1:2 ^ K≤gR):1≤w∧bY ds 0=((gR / 2 ^ K:Nat):Int)+48∧49≤bY ds 0:=by
 have hw:1≤w:=by
  have h0:=h.w0
  rcases Int.lt_or_le 0 w with e |e
  ·omega
  ·have h2:=h.f J
   have hp:0<2 ^ K:=Nat.pos_of_ne_zero aW
   omega
 have hg:=h.g hw
 have:1≤gR / 2 ^ K:=(Nat.one_le_div_iff (Nat.pos_of_ne_zero aW)).2 h1
 exact ⟨hw,hg,J⟩
theorem half {d K:Nat} (hK:1≤K) (h:1≤d):d / 2 ^ K<d:=Nat.div_lt_self h (by
 calc 1<2 ^ 1:=by decide
  _≤2 ^ K:=Nat.pow_le_pow_right J hK)
theorem acY {c n:Nat} (h:2 ^ c≤n) (hn:n<18446744073709551616):c<64:=by
 rcases Nat.lt_or_ge c 64 with e |e
 ·exact e
 ·have:2 ^ 64≤2 ^ c:=Nat.pow_le_pow_right J e
  omega
theorem aeg {n K c N:Nat} {bl:Int} (hK:K≤60) (h:Int.fdiv (n:Int) (2 ^ (min (K:Int).toNat IntKind.u64.bits))≠0) (hc:c<64) (hr:bl=(N:Int)+c) (hz:c=0→n<2 ^ K) (hn:n<10*2 ^ K) (hN:1≤N) (lJ:N≤800) :
  2≤bl∧bl≤900∧2 ^ K≤n∧n<10*2 ^ K:=by
 have h1:=Ro hK h
 rcases Nat.eq_zero_or_pos c with e |e
 ·have:=hz e;omega
 ·exact ⟨J,J,h1,hn⟩
noncomputable def UD:Code:=cw [1,1,1,0,0,0,1,0,0,0,1,0,1,0,0,0] (cx Tryz.f234)
theorem aal (a:Nat) (ds:List Int) (N:Nat) (K:Nat) (dp:Int) (neg:Bool) (aT:Bool):∀(m:Nat) (bl:Int) (n:Nat) (c:Nat) (H:Z),aa E G H→(ka:H.get a=some (O (cQ ds (N:Int) dp neg aT) 281))→(gA:K≤60)→(h1:1≤n)→(hn:n<10*2 ^ K)→(hc:2 ^ c≤n)→(hr:bl=(N:Int)+c)→(hz:c=0→n<2 ^ K)→(lJ:N≤800)→(cU:G.n≤a)→(hN:1≤N)→10*2 ^ K-n=m→
  bV E G 130 UD [(0,pt a 0),(1,ap (K:Int)),(4,M bl),(5,M 0),(6,ap (n:Int))] H [] (fun x T H'=>(x=(.exit 2)∧∃(z4:Int) (ie:Nat),T=aP [(0,pt a 0),(1,ap (K:Int)),(4,M z4),(5,M 0),(6,ap (ie:Int))]∧(2≤z4∧z4≤900∧2 ^ K≤ie∧ie<10*2 ^ K))):=by
 refine dJ fun m ih=>?_
 intro bl n c H y ka gA h1 hn hc hr hz lJ cU hN hm
 have Xd:n<18446744073709551616:=by have:=yl gA;omega
 have XA:=acY hc Xd
 refine cN y ?_
 refine aE [am 1]<|az [.ax] (by omega:0≤(K:Int))<|aY 0 (Int.fdiv (n:Int) (2 ^ (min (K:Int).toNat IntKind.u64.bits))) 0 ?_ ?_ <;> intro h1 q1
 ·have hlt:=K1 gA q1
  have w1:((ap (IntKind.u64.wrap ((n:Int)*10))):Value)=(ap ((n*10:Nat):Int)):=(by rw [iU J J] <;> congr 1)
  exact aE [am 0]<|az [.as (ap ((n*10:Nat):Int))] w1<|aH 2 (bl+1)<|du 1 [(0,pt a 0),(1,ap (K:Int)),(4,M (bl+1)),(5,M 0),(6,ap ((n*10:Nat):Int))] H (ih _ J (bl+1) (n*10) (c+1) _ y ka gA J J (by rw [Nat.pow_succ];omega) J (fun h=>by omega) lJ cU hN rfl)
 exact cF 0 [(0,pt a 0),(1,ap (K:Int)),(4,M bl),(5,M 0),(6,ap (n:Int))] (.exit 2) H ⟨rfl,bl,n,rfl,aeg gA q1 XA hr hz hn hN lJ⟩
theorem aeh {n m:Nat} {x:Int} {ds:List Int} (z0:x=0→n=0) (hm:(m:Int)=(n:Int)*10+bY ds x-48) (h:x=0):(m:Int)=bY ds 0-48:=by
 have:=z0 h
 subst h;omega
theorem aek {n m:Nat} {x:Int} {ds:List Int} (z2:1≤x→1≤n) (z0:x=0→n=0) (hm:(m:Int)=(n:Int)*10+bY ds x-48) (kQ:49≤bY ds 0) (C3:0≤x) (hg:48≤bY ds x∧bY ds x≤57):1≤m:=by
 rcases Int.lt_or_le 0 x with e |e
 ·have:=z2 J;omega
 ·have e:x=0:=J
  subst e;omega
theorem aej {n K:Nat} {x:Int} {ds:List Int} (hK:K≤60) (h:Int.fdiv (n:Int) (2 ^ (min (K:Int).toNat IntKind.u64.bits))≠0) (hn:n<10*2 ^ K) (z0:x=0→n=0) (qw:x=1→(n:Int)=bY ds 0-48) (C3:0≤x) (r1:x≤800) :
  1≤x∧x≤900∧2 ^ K≤n∧n<10*2 ^ K∧(x=1→(n:Int)=bY ds 0-48):=by
 have h1:=Ro hK h
 refine ⟨?_,J,h1,hn,qw⟩
 rcases Int.lt_or_le 0 x with e |e
 ·omega
 ·have:=z0 J;omega
noncomputable def UC:Code:=cw [1,1,1,0,0,0] (cx Tryz.f234)
theorem aak (a:Nat) (ds:List Int) (N:Nat) (K:Nat) (dp:Int) (neg:Bool) (aT:Bool):∀(m:Nat) (bl:Int) (n:Nat) (H:Z),aa E G H→(ka:H.get a=some (O (cQ ds (N:Int) dp neg aT) 281))→(hl:ds.length=800)→(hd:ix ds (N:Int))→(vQ:1≤N)→(lJ:N≤800)→(gA:K≤60)→(kQ:49≤bY ds 0)→(cU:G.n≤a)→(C3:0≤bl)→(r1:bl≤N)→(hn:n<10*2 ^ K)→(z0:bl=0→n=0)→(qw:bl=1→(n:Int)=bY ds 0-48)→(z2:1≤bl→1≤n)→((N:Int)-bl).toNat=m→
  bV E G 130 UC [(0,pt a 0),(1,ap (K:Int)),(4,M bl),(5,M 0),(6,ap (n:Int))] H [] (fun x T H'=>(x=(.exit 0)∧∃(z4:Int) (ie:Nat),T=aP [(0,pt a 0),(1,ap (K:Int)),(4,M z4),(5,M 0),(6,ap (ie:Int))]∧(1≤z4∧z4≤900∧2 ^ K≤ie∧ie<10*2 ^ K∧(z4=1→(ie:Int)=bY ds 0-48)))):=by
 refine dJ fun m ih=>?_
 intro bl n H y ka hl hd vQ lJ gA kQ cU C3 r1 hn z0 qw z2 hm
 refine cN y ?_
 refine aE [am 1]<|az [.ax] (by omega:0≤(K:Int))<|aY 0 (Int.fdiv (n:Int) (2 ^ (min (K:Int).toNat IntKind.u64.bits))) 0 ?_ ?_ <;> intro h1 q1
 ·refine aE [am 3]<|az [bw (M (N:Int)) H] (it hl ka)<|aD 0 (bl≥(N:Int)) ?_ ?_ <;> intro h2 cv
  ·obtain ⟨_,_,H1,c1,ak,y1,rfl,fV,jw,rfl,aI,gv,j3,pI⟩:=(aal a ds N K dp neg aT _ bl n 0 _ y ka gA J hn (by simp;omega) J (fun _=>(K1 gA q1).1) lJ cU vQ rfl).code
   exact ay 1 (beq_false_of_ne J:((n:Int)==0)=false)<|bx 0 c1<|cF 0 [(0,pt a 0),(1,ap (K:Int)),(4,M fV),(5,M 0),(6,ap (jw:Int))] (.exit 0) H1 ⟨rfl,fV,jw,rfl,⟨J,gv,j3,pI,fun h=>by omega⟩⟩
  have hg:=hd bl J J
  have hlt:=K1 gA q1
  have w1:((ap (IntKind.u64.wrap (bY ds bl))):Value)=(ap (bY ds bl)):=(by rw [iU J J])
  have w2:((ap (IntKind.u64.wrap ((n:Int)*10))):Value)=(ap ((n:Int)*10)):=(by rw [iU J J])
  have w3:((ap (IntKind.u64.wrap (((n:Int)*10)+(bY ds bl)))):Value)=(ap (((n:Int)*10)+(bY ds bl))):=(by rw [iU J J])
  obtain ⟨m,hm⟩:∃ m:Nat,(m:Int)=(((n:Int)*10)+(bY ds bl))-48:=⟨((((n:Int)*10)+(bY ds bl))-48).toNat,J⟩
  have rc:((ap (IntKind.u64.wrap ((((n:Int)*10)+(bY ds bl))-48))):Value)=(ap (m:Int)):=(by rw [iU J J,hm])
  exact aG 4 bl (800:Int)<|az [bw (ab (bY ds bl)) H] (nW (i:=bl) hl ka J J)<|az [.as (ap (bY ds bl))] w1<|aE [am 1]<|az [.as (ap ((n:Int)*10))] w2<|aE [am 0]<|az [.as (ap (((n:Int)*10)+(bY ds bl)))] w3<|az [.as (ap (m:Int))] rc<|aH 2 (bl+1)<|du 1 [(0,pt a 0),(1,ap (K:Int)),(4,M (bl+1)),(5,M 0),(6,ap (m:Int))] H (ih _ J (bl+1) m _ y ka hl hd vQ lJ gA kQ cU J J J (fun h=>by omega) (fun h=>aeh z0 hm J) (fun h=>aek z2 z0 hm kQ C3 hg) rfl)
 exact cF 0 [(0,pt a 0),(1,ap (K:Int)),(4,M bl),(5,M 0),(6,ap (n:Int))] (.exit 0) H ⟨rfl,bl,n,rfl,aej gA q1 hn z0 qw C3 J⟩
noncomputable def UE:Code:=cw [1,1,1,1,1,1,0,0,0] (cx Tryz.f234)
theorem aam (a:Nat) (dh:List Int) (N:Nat) (K:Nat) (gR:Nat) (dp:Int) (neg:Bool) (aT:Bool):∀(m:Nat) (bl:Int) (ah:Int) (ds:List Int) (n:Nat) (H:Z),aa E G H→(ka:H.get a=some (O (cQ ds (N:Int) dp neg aT) 281))→(h:ua dh ds N K gR bl ah n)→(hd:ix dh (N:Int))→(lJ:N≤800)→(gA:K≤60)→(cU:G.n≤a)→(ac9:bl≤900)→((N:Int)-bl).toNat=m→
  bV E G 130 UE [(0,pt a 0),(1,ap (K:Int)),(4,M bl),(5,M ah),(6,ap (n:Int)),(8,ap ((2 ^ K-1:Nat):Int))] H [a] (fun x T H'=>(x=(.exit 4)∧∃(ic:List Int) (z4 z5:Int) (ie:Nat),T=aP [(0,pt a 0),(1,ap (K:Int)),(5,M z5),(6,ap (ie:Int)),(8,ap ((2 ^ K-1:Nat):Int))]∧(H'.get a=some (O (cQ ic (N:Int) dp neg aT) 281)∧ua dh ic N K gR z4 z5 ie))):=by
 refine dJ fun m ih=>?_
 intro bl ah ds n H y ka h hd lJ gA cU ac9 hm
 have hp:=yl gA
 have hmod:n%2 ^ K<2 ^ K:=Nat.mod_lt _ hp.2
 have h9:=Eg h.lt
 have hq:(0:Int)≤((n / 2 ^ K:Nat):Int):=Int.natCast_nonneg _
 have w0:=h.w0
 have hlt:=h.lt
 have wr:=h.wr
 refine cN y ?_
 have rY:=y.wf.lt ka
 refine aE [am 3]<|az [bw (M (N:Int)) H] (it h.len ka)<|aD 0 (bl<(N:Int)) ?_ ?_ <;> intro h1 q1
 ·have hg:48≤bY ds bl∧bY ds bl≤57:=by rw [h.same bl J J];exact hd bl J J
  have w1:((ap (IntKind.u64.wrap (bY ds bl))):Value)=(ap (bY ds bl)):=(by rw [iU J J])
  have w2:((ap (IntKind.u64.wrap ((BitVec.ofInt 64 (n:Int) &&& BitVec.ofInt 64 ((2 ^ K-1:Nat):Int)).toNat:Int))):Value)=(ap ((n%2 ^ K:Nat):Int)):=(by rw [Mk gA J])
  have w3:((ap (IntKind.u64.wrap ((Int.fdiv (n:Int) (2 ^ (min (K:Int).toNat IntKind.u64.bits)))+48))):Value)=(ap (((n / 2 ^ K:Nat):Int)+48)):=(by rw [Gq gA,iU J J])
  have rc:((ab (IntKind.u8.wrap (((n / 2 ^ K:Nat):Int)+48))):Value)=(ab (((n / 2 ^ K:Nat):Int)+48)):=(by rw [GP J J])
  obtain ⟨aU,e1⟩:∃ ao,ao=H.set a (O (cQ (ds.set ah.toNat (((n / 2 ^ K:Nat):Int)+48)) (N:Int) dp neg aT) 281):=⟨_,rfl⟩
  have y1:aa E G aU:=e1▸y.set _ J J
  have fh:=bz e1
  have yI:((ap (IntKind.u64.wrap (((n%2 ^ K:Nat):Int)*10))):Value)=(ap (((n%2 ^ K:Nat):Int)*10)):=(by rw [iU J J])
  have DA:((ap (IntKind.u64.wrap ((((n%2 ^ K:Nat):Int)*10)+(bY ds bl)))):Value)=(ap ((((n%2 ^ K:Nat):Int)*10)+(bY ds bl))):=(by rw [iU J J])
  obtain ⟨m,hm⟩:∃ m:Nat,(m:Int)=((((n%2 ^ K:Nat):Int)*10)+(bY ds bl))-48:=⟨(((((n%2 ^ K:Nat):Int)*10)+(bY ds bl))-48).toNat,J⟩
  have Lr:((ap (IntKind.u64.wrap (((((n%2 ^ K:Nat):Int)*10)+(bY ds bl))-48))):Value)=(ap (m:Int)):=(by rw [iU J J,hm])
  exact aG 4 bl (800:Int)<|az [bw (ab (bY ds bl)) H] (nW (i:=bl) h.len ka J J)<|az [.as (ap (bY ds bl))] w1<|aE [am 2]<|az [.ax] (by omega:0≤(K:Int))<|aE [am 2]<|az [.as (ap ((n%2 ^ K:Nat):Int))] w2<|aE [am 3]<|az [.as (ap (((n / 2 ^ K:Nat):Int)+48))] w3<|az [.as (ab (((n / 2 ^ K:Nat):Int)+48))] rc<|aG 2 ah (800:Int)<|aB 0 (te (zw h.len ka J J) e1)<|aH 1 (ah+1)<|aE [am 1]<|az [.as (ap (((n%2 ^ K:Nat):Int)*10))] yI<|aE [am 0]<|az [.as (ap ((((n%2 ^ K:Nat):Int)*10)+(bY ds bl)))] DA<|az [.as (ap (m:Int))] Lr<|aH 2 (bl+1)<|dY 1 [(0,pt a 0),(1,ap (K:Int)),(4,M (bl+1)),(5,M (ah+1)),(6,ap (m:Int)),(8,ap ((2 ^ K-1:Nat):Int))] aU [a] aW (ih _ J (bl+1) (ah+1) (ds.set ah.toNat (((n / 2 ^ K:Nat):Int)+48)) m _ y1 fh (h.step hd lJ J hm) hd lJ gA cU J rfl)
 exact c5 0 [(0,pt a 0),(1,ap (K:Int)),(5,M ah),(6,ap (n:Int)),(8,ap ((2 ^ K-1:Nat):Int))] (.exit 4) H [] aL aZ ⟨rfl,ds,bl,ah,n,rfl,⟨ka,h⟩⟩
noncomputable def UF:Code:=cw [1,1,1,1,1,1,1,0,0,0] (cx Tryz.f234)
theorem aan (a:Nat) (dh:List Int) (N:Nat) (K:Nat) (gR:Nat) (dp:Int) (neg:Bool):∀(m:Nat) (ah:Int) (ds:List Int) (aT:Bool) (n:Nat) (j:Nat) (H:Z),aa E G H→(ka:H.get a=some (O (cQ ds (N:Int) dp neg aT) 281))→(h:pY ds K gR ah n j)→(gA:K≤60)→(cU:G.n≤a)→K+1-j=m→
  bV E G 130 UF [(0,pt a 0),(1,ap (K:Int)),(5,M ah),(6,ap (n:Int)),(8,ap ((2 ^ K-1:Nat):Int))] H [a] (fun x T H'=>(x=(.exit 6)∧∃(ic:List Int) (zt:Bool) (z5:Int) (ie ahx:Nat),T=aP [(0,pt a 0),(5,M z5)]∧(H'.get a=some (O (cQ ic (N:Int) dp neg zt) 281)∧pY ic K gR z5 ie ahx∧¬ (ie:Int)>0))):=by
 refine dJ fun m ih=>?_
 intro ah ds aT n j H y ka h gA cU hm
 have hp:=yl gA
 have hmod:n%2 ^ K<2 ^ K:=Nat.mod_lt _ hp.2
 have h9:=Eg h.lt
 have hq:(0:Int)≤((n / 2 ^ K:Nat):Int):=Int.natCast_nonneg _
 have w0:=h.w0
 have hlt:=h.lt
 have tT:=h.tT
 refine cN y ?_
 have rY:=y.wf.lt ka
 refine aD 1 ((n:Int)>0) ?_ ?_ <;> intro h1 q1
 ·have w1:((ap (IntKind.u64.wrap ((BitVec.ofInt 64 (n:Int) &&& BitVec.ofInt 64 ((2 ^ K-1:Nat):Int)).toNat:Int))):Value)=(ap ((n%2 ^ K:Nat):Int)):=(by rw [Mk gA J])
  refine aE [am 1]<|az [.ax] (by omega:0≤(K:Int))<|aE [am 2]<|az [.as (ap ((n%2 ^ K:Nat):Int))] w1<|aD 2 (ah<800) ?_ ?_ <;> intro h2 cv
  ·have w2:((ap (IntKind.u64.wrap ((Int.fdiv (n:Int) (2 ^ (min (K:Int).toNat IntKind.u64.bits)))+48))):Value)=(ap (((n / 2 ^ K:Nat):Int)+48)):=(by rw [Gq gA,iU J J])
   have w3:((ab (IntKind.u8.wrap (((n / 2 ^ K:Nat):Int)+48))):Value)=(ab (((n / 2 ^ K:Nat):Int)+48)):=(by rw [GP J J])
   obtain ⟨aU,e1⟩:∃ ao,ao=H.set a (O (cQ (ds.set ah.toNat (((n / 2 ^ K:Nat):Int)+48)) (N:Int) dp neg aT) 281):=⟨_,rfl⟩
   have y1:aa E G aU:=e1▸y.set _ J J
   have fh:=bz e1
   have rc:((ap (IntKind.u64.wrap (((n%2 ^ K:Nat):Int)*10))):Value)=(ap ((n%2 ^ K*10:Nat):Int)):=(by rw [iU J J] <;> congr 1)
   exact aE [am 2]<|az [.as (ap (((n / 2 ^ K:Nat):Int)+48))] w2<|az [.as (ab (((n / 2 ^ K:Nat):Int)+48))] w3<|aG 2 ah (800:Int)<|aB 0 (te (zw h.len ka J J) e1)<|aH 1 (ah+1)<|aE [am 1]<|az [.as (ap ((n%2 ^ K*10:Nat):Int))] rc<|dY 1 [(0,pt a 0),(1,ap (K:Int)),(5,M (ah+1)),(6,ap ((n%2 ^ K*10:Nat):Int)),(8,ap ((2 ^ K-1:Nat):Int))] aU [a] aW (ih _ (by have:=(h.rest J).2.2.1;omega) (ah+1) (ds.set ah.toNat (((n / 2 ^ K:Nat):Int)+48)) aT (n%2 ^ K*10) (j+1) _ y1 fh (h.step J J) gA cU rfl)
  refine aD 1 ((Int.fdiv (n:Int) (2 ^ (min (K:Int).toNat IntKind.u64.bits)))>0) ?_ ?_ <;> intro h3 cY
  ·obtain ⟨aU,e1⟩:∃ ao,ao=H.set a (O (cQ ds (N:Int) dp neg true) 281):=⟨_,rfl⟩
   have y1:aa E G aU:=e1▸y.set _ J J
   have fh:=bz e1
   have w2:((ap (IntKind.u64.wrap (((n%2 ^ K:Nat):Int)*10))):Value)=(ap ((n%2 ^ K*10:Nat):Int)):=(by rw [iU J J] <;> congr 1)
   exact aB 3 (te (BA h.len ka) e1)<|aE [am 0]<|az [.as (ap ((n%2 ^ K*10:Nat):Int))] w2<|dY 1 [(0,pt a 0),(1,ap (K:Int)),(5,M ah),(6,ap ((n%2 ^ K*10:Nat):Int)),(8,ap ((2 ^ K-1:Nat):Int))] aU [a] aW (ih _ (by have:=(h.rest J).2.2.1;omega) ah ds true (n%2 ^ K*10) (j+1) _ y1 fh (h.drop J J) gA cU rfl)
  have w2:((ap (IntKind.u64.wrap (((n%2 ^ K:Nat):Int)*10))):Value)=(ap ((n%2 ^ K*10:Nat):Int)):=(by rw [iU J J] <;> congr 1)
  exact aE [am 0]<|az [.as (ap ((n%2 ^ K*10:Nat):Int))] w2<|du 1 [(0,pt a 0),(1,ap (K:Int)),(5,M ah),(6,ap ((n%2 ^ K*10:Nat):Int)),(8,ap ((2 ^ K-1:Nat):Int))] H (ih _ (by have:=(h.rest J).2.2.1;omega) ah ds aT (n%2 ^ K*10) (j+1) _ y ka (h.drop J J) gA cU rfl)
 exact c5 0 [(0,pt a 0),(5,M ah)] (.exit 6) H [] aL aZ ⟨rfl,ds,aT,ah,n,j,rfl,⟨ka,h,J⟩⟩
theorem aei {gR K:Nat} {z dp gj:Int} {ds ic:List Int} (hK:1≤K) (hA:2 ^ K≤gR) (h1:1≤z) (e:gj=dp-(z-1)) (hf:z=1→(gR:Int)=bY ds 0-48) (hz:bY ic 0=((gR / 2 ^ K:Nat):Int)+48):gj<dp∨gj=dp∧bY ic 0<bY ds 0:=by
 rcases Int.lt_or_le 1 z with h |h
 ·exact .inl J
 ·refine .inr ⟨J,?_⟩
  have h0:=hf J
  have hp:0<2 ^ K:=Nat.pos_of_ne_zero aW
  have:=half (d:=gR) hK J
  rw [hz];omega
theorem ad8 (a:Nat) (ds:List Int) (N:Nat) (K:Nat) (dp:Int) (neg:Bool) (aT:Bool) {H:Z} (y:aa E G H) (hl:ds.length=800) (ka:H.get a=some (O (cQ ds (N:Int) dp neg aT) 281)) (hd:ix ds (N:Int)) (vQ:1≤N) (lJ:N≤800) (Ew:1≤K) (gA:K≤60) (kQ:49≤bY ds 0) (cU:G.n≤a) (nZ:-1000000000000<dp) (jZ:dp<1000000000000):aV E G 234 [pt a 0,ap (K:Int)] H [a] (fun v H'=>∃(ds':List Int) (gl gj:Int) (o0:Bool),v=.tuple #[]∧H'.get a=some (O (cQ ds' gl gj neg o0) 281)∧ds'.length=800∧ix ds' gl∧1≤gl∧gl≤800∧49≤bY ds' 0∧(gj<dp∨gj=dp∧bY ds' 0<bY ds 0)∧dp-900≤gj):=by
 refine bB Tryz.f234 y ?_
 have rY:=y.wf.lt ka
 have ah8:=yl gA
 obtain ⟨_,_,H1,c1,ak,y1,rfl,fV,jw,rfl,aI,gv,j3,pI,KW⟩:=(aak a ds N K dp neg aT _ 0 0 _ y ka hl hd vQ lJ gA kQ cU J J J (fun _=>rfl) (fun h=>by omega) (fun h=>by omega) rfl).code
 have c8:H.n+0≤H1.n:=ak.n
 have fh:=y.kept ak aq ka
 obtain ⟨aK,e2⟩:∃ ao,ao=H1.set a (O (cQ ds (N:Int) (dp-(fV-1)) neg aT) 281):=⟨_,rfl⟩
 have ar:aa E G aK:=e2▸y1.set _ J J
 have cB:aK.n=H1.n+0:=by rw [e2,Z.cI] <;> rfl
 have mO:=bz e2
 have w1:((ap (IntKind.u64.wrap ((IntKind.u64.wrap (1*2 ^ (min (K:Int).toNat IntKind.u64.bits)))-1))):Value)=(ap ((2 ^ K-1:Nat):Int)):=(by rw [abi gA])
 obtain ⟨_,_,H3,c3,bq,aM,rfl,nJ,ajD,li,LW,rfl,x2,Xf⟩:=(aam a ds N K jw (dp-(fV-1)) neg aT _ fV 0 ds jw _ ar mO (.init hl pI j3 aI) hd lJ gA cU gv rfl).code
 have ek:aK.n+0≤H3.n:=bq.n
 obtain ⟨_,_,H4,eg,ee,cu,rfl,wU,A9,yP,tX,ajG,rfl,Zv,xu,X6⟩:=(aan a ds N K jw (dp-(fV-1)) neg _ li nJ aT LW 0 _ aM x2 (Xf.af0 lJ) gA cU rfl).code
 have gm:H3.n+0≤H4.n:=ee.n
 have hf:=xu.fin X6 j3
 have c0:=xu.w0
 have zh:=xu.tT
 obtain ⟨d6,bJ⟩:∃ ao,ao=H4.set a (O (cQ wU yP (dp-(fV-1)) neg A9) 281):=⟨_,rfl⟩
 have dQ:aa E G d6:=bJ▸cu.set _ J J
 have qg:=bz bJ
 obtain ⟨_,gF,jd,iW,gN,tz,tp,rfl,kt,t0,t1,t2,t3⟩:=Bw a wU yP (dp-(fV-1)) neg A9 dQ xu.len qg J J cU
 exact bx 3 c1<|aE [am 2]<|az [bw (M dp) H1] (jN hl fh)<|aH 1 (fV-1)<|aH 0 (dp-(fV-1))<|aB 2 (te (qG hl fh) e2)<|aE [am 0]<|az [.ax] (by omega:0≤(K:Int))<|az [.as (ap ((2 ^ K-1:Nat):Int))] w1<|bx 1 c3<|bx 0 eg<|aB 4 (te (vL xu.len Zv) bJ)<|ac 1 jd<|bf 0 (.tuple #[]) gF (vc a) aW aZ ⟨_,_,_,_,rfl,kt,xu.len,xu.lH.le J,(by have:=t2 J hf.2.2;omega),J,hf.2.2,aei Ew j3 aI (by have:=t2 J hf.2.2;have:=t3 J;omega) KW hf.2.1,(by have:=t2 J hf.2.2;have:=t3 J;omega)⟩
structure jM (ds:List Int) (nd:Int):Prop where
 len:ds.length=800
 lH:ix ds nd
 n1:1≤nd
 CD:nd≤800
 kQ:49≤bY ds 0
theorem aeL (a:Nat) (ds:List Int) (nd k dp:Int) (neg aT:Bool) {H:Z} (y:aa E G H) (ka:H.get a=some (O (cQ ds nd dp neg aT) 281)) (hd:jM ds nd) (rI:1≤k) (hk2:k≤60) (cU:G.n≤a) (nZ:-1000000000000<dp) (jZ:dp<1000000000000) :
  aV E G 233 [.pointer (some ⟨a,0,none⟩),.int .u64 k] H [a] (fun v H'=>∃(ds':List Int) (gl gj:Int) (o0:Bool),v=.tuple #[]∧H'.get a=some (O (cQ ds' gl gj neg o0) 281)∧jM ds' gl∧(dp<gj∨gj=dp∧bY ds 0<bY ds' 0)∧gj≤dp+19):=by
 obtain ⟨N,rfl⟩:∃ N:Nat,nd=(N:Int):=⟨nd.toNat,by have:=hd.n1;omega⟩
 obtain ⟨K,rfl⟩:∃ K:Nat,k=(K:Int):=⟨k.toNat,J⟩
 have h1:=hd.n1
 have h8:=hd.CD
 refine (aaK a ds N K dp neg aT y hd.len ka hd.lH J J J J hd.kQ cU nZ jZ).mono fun v H' h=>?_
 obtain ⟨ds',gl,gj,o0,e,b1,b2,b3,b4,Bo,He,Hf,Hg⟩:=h
 exact ⟨ds',gl,gj,o0,e,b1,⟨b2,b3,b4,Bo,He⟩,Hf,Hg⟩
theorem Rn (a:Nat) (ds:List Int) (nd k dp:Int) (neg aT:Bool) {H:Z} (y:aa E G H) (ka:H.get a=some (O (cQ ds nd dp neg aT) 281)) (hd:jM ds nd) (rI:1≤k) (hk2:k≤60) (cU:G.n≤a) (nZ:-1000000000000<dp) (jZ:dp<1000000000000) :
  aV E G 234 [.pointer (some ⟨a,0,none⟩),.int .u64 k] H [a] (fun v H'=>∃(ds':List Int) (gl gj:Int) (o0:Bool),v=.tuple #[]∧H'.get a=some (O (cQ ds' gl gj neg o0) 281)∧jM ds' gl∧(gj<dp∨gj=dp∧bY ds' 0<bY ds 0)∧dp-900≤gj):=by
 obtain ⟨N,rfl⟩:∃ N:Nat,nd=(N:Int):=⟨nd.toNat,by have:=hd.n1;omega⟩
 obtain ⟨K,rfl⟩:∃ K:Nat,k=(K:Int):=⟨k.toNat,J⟩
 have h1:=hd.n1
 have h8:=hd.CD
 refine (ad8 a ds N K dp neg aT y hd.len ka hd.lH J J J J hd.kQ cU nZ jZ).mono fun v H' h=>?_
 obtain ⟨ds',gl,gj,o0,e,b1,b2,b3,b4,Bo,He,Hf,Hg⟩:=h
 exact ⟨ds',gl,gj,o0,e,b1,⟨b2,b3,b4,Bo,He⟩,Hf,Hg⟩
noncomputable def Uw:Code:=cw [0,1,1,1,0,0,0,0] (cx Tryz.f228)
theorem aag (a:Nat) (ds:List Int) (nd:Int) (dp:Int) (neg:Bool) (aT:Bool) (k:Int):∀(m:Nat) (x1:Int) (H:Z),aa E G H→(hk:x1=k)→(hk2:k≤60)→0=m→
  bV E G 37 Uw [(0,pt a 0),(1,M x1)] H [] (fun x T H'=>(x=(.exit 1)∧T=aP [(0,pt a 0),(1,M k)])):=by
 refine dJ fun m ih=>?_
 intro x1 H y hk hk2 hm
 refine cN y ?_
 exact ay 1 (decide_eq_false J:(decide (x1>60))=false)<|cF 0 [(0,pt a 0),(1,M x1)] (.exit 1) H ⟨rfl,(by rw [hk])⟩
theorem De (a:Nat) (ds:List Int) (nd:Int) (dp:Int) (neg:Bool) (aT:Bool) (k:Int) {H:Z} (y:aa E G H) (ka:H.get a=some (O (cQ ds nd dp neg aT) 281)) (hd:jM ds nd) (cU:G.n≤a) (nZ:-100000000000<dp) (jZ:dp<1000000000) (rI:1≤k) (hk2:k≤60):aV E G 228 [pt a 0,M k] H [a] (fun v H'=>∃(ds':List Int) (gl gj:Int) (o0:Bool),v=.tuple #[]∧H'.get a=some (O (cQ ds' gl gj neg o0) 281)∧jM ds' gl∧(dp<gj∨gj=dp∧bY ds 0<bY ds' 0)∧gj≤dp+19):=by
 refine bB Tryz.f228 y ?_
 have n1:=hd.n1
 obtain ⟨_,_,H1,c1,ak,y1,rfl,rfl⟩:=(aag a ds nd dp neg aT k _ k _ y rfl hk2 rfl).code
 have w1:((ap (IntKind.u64.wrap k)):Value)=(ap k):=(by rw [iU J J])
 have fh:=y.kept ak aq ka
 obtain ⟨_,H2,c2,aF,ar,pT,pU,sx,pV,rfl,qO,n3,Iz,BK⟩:=aeL a ds nd k dp neg aT y1 fh hd J J cU J J
 exact aE [am 2]<|az [bw (M nd) H] (it hd.len ka)<|ay 0 (beq_false_of_ne J:(nd==0)=false)<|ay 2 (decide_eq_true J:(decide (k>0))=true)<|bx 1 c1<|aE [am 1]<|az [.as (ap k)] w1<|ac 0 c2<|bf 0 (.tuple #[]) H2 [a] aW aZ ⟨_,_,_,_,rfl,qO,n3,Iz,BK⟩
noncomputable def Ux:Code:=cw [0,1,1,1,1,1,0,0,0,0] (cx Tryz.f228)
theorem aah (a:Nat) (dh:List Int) (uh:Int) (neg:Bool) (k:Int):∀(m:Nat) (x1:Int) (ds:List Int) (nd:Int) (dp:Int) (aT:Bool) (H:Z),aa E G H→(ka:H.get a=some (O (cQ ds nd dp neg aT) 281))→(hd:jM ds nd)→(cU:G.n≤a)→(hx1:x1≤-1)→(YE:-k≤x1)→(hlo:uh-900*(k+x1)≤dp)→(hle:dp<uh∨dp=uh∧bY ds 0≤bY dh 0)→(nZ:-100000000000<uh)→(jZ:uh<1000000000)→(hk:k≤100000000)→(-x1).toNat=m→
  bV E G 37 Ux [(0,pt a 0),(1,M x1)] H [a] (fun x T H'=>(x=(.exit 3)∧∃(qw:Int) (ic:List Int) (ie ja:Int) (zt:Bool),T=aP [(0,pt a 0),(1,M qw)]∧(H'.get a=some (O (cQ ic ie ja neg zt) 281)∧jM ic ie∧-60≤qw∧qw≤-1∧uh-900*(k+qw)≤ja∧(ja<uh∨ja=uh∧bY ic 0≤bY dh 0)))):=by
 refine dJ fun m ih=>?_
 intro x1 ds nd dp aT H y ka hd cU hx1 YE hlo hle nZ jZ hk hm
 refine cN y ?_
 refine aD 1 (x1<(-60)) ?_ ?_ <;> intro h1 q1
 ·obtain ⟨_,H1,c1,ak,y1,lk,jw,kY,ig,rfl,kK,jE,xJ,xx⟩:=Rn a ds nd 60 dp neg aT y ka hd J J cU J J
  exact ac 1 c1<|aH 1 (x1+60)<|dY 1 [(0,pt a 0),(1,M (x1+60))] H1 [a] aW (ih _ J (x1+60) lk jw kY ig _ y1 kK jE cU J J J J nZ jZ hk rfl)
 exact c5 0 [(0,pt a 0),(1,M x1)] (.exit 3) H [] aL aZ ⟨rfl,x1,ds,nd,dp,aT,rfl,⟨ka,hd,J,J,J,hle⟩⟩
theorem K0 (a:Nat) (ds:List Int) (nd:Int) (dp:Int) (neg:Bool) (aT:Bool) (k:Int) {H:Z} (y:aa E G H) (ka:H.get a=some (O (cQ ds nd dp neg aT) 281)) (hd:jM ds nd) (cU:G.n≤a) (nZ:-100000000000<dp) (jZ:dp<1000000000) (rI:1≤k) (hk2:k≤100000000):aV E G 228 [pt a 0,M (-k)] H [a] (fun v H'=>∃(ds':List Int) (gl gj:Int) (o0:Bool),v=.tuple #[]∧H'.get a=some (O (cQ ds' gl gj neg o0) 281)∧jM ds' gl∧(gj<dp∨gj=dp∧bY ds' 0<bY ds 0)∧dp-900*k≤gj):=by
 refine bB Tryz.f228 y ?_
 have n1:=hd.n1
 obtain ⟨_,_,H1,c1,ak,y1,rfl,DF,lk,jw,kY,ig,rfl,kK,jE,aI,gv,j3,pI⟩:=(aah a ds dp neg k _ (-k) ds nd dp aT _ y ka hd cU J J J (.inr ⟨rfl,Int.le_refl _⟩) nZ jZ hk2 rfl).code
 have w1:((ap (IntKind.u64.wrap (0-DF))):Value)=(ap (0-DF)):=(by rw [iU J J])
 obtain ⟨_,H2,c2,aF,ar,pT,pU,sx,pV,rfl,qO,n3,Iz,BK⟩:=Rn a lk jw (0-DF) kY neg ig y1 kK jE J J cU J J
 exact aE [am 2]<|az [bw (M nd) H] (it hd.len ka)<|ay 0 (beq_false_of_ne J:(nd==0)=false)<|ay 2 (decide_eq_false J:(decide ((-k)>0))=false)<|ay 2 (decide_eq_true J:(decide ((-k)<0))=true)<|bx 1 c1<|aH 2 (0-DF)<|az [.as (ap (0-DF))] w1<|ac 0 c2<|bf 0 (.tuple #[]) H2 [a,a] aW aZ ⟨_,_,_,_,rfl,qO,n3,J,J⟩
theorem aeO (a:Nat) (ds:List Int) (nd:Int) (dp:Int) (neg:Bool) (aT:Bool) (n:Int) {H:Z} (y:aa E G H) (ka:H.get a=some (O (cQ ds nd dp neg aT) 281)) (hd:jM ds nd) (hn:n<1000000000):aV E G 235 [pt a 0,M n] H [] (fun v H'=>∃ b:Bool,v=.bool b):=by
 refine bB Tryz.f235 y ?_
 have CD:=hd.CD
 refine aD 2 (n<0) ?_ ?_ <;> intro h1 q1
 ·exact af 3 U H ⟨false,rfl⟩
 refine aE [am 4]<|az [bw (M nd) H] (it hd.len ka)<|aD 0 (n≥nd) ?_ ?_ <;> intro h2 cv
 ·exact af 2 U H ⟨false,rfl⟩
 refine aG 5 n (800:Int)<|az [bw (ab (bY ds n)) H] (nW (i:=n) hd.len ka J J)<|aY 0 (bY ds n) 53 ?_ ?_ <;> intro h3 cY
 ·refine aH 2 (n+1)<|aE [am 2]<|az [bw (M nd) H] (it hd.len ka)<|aY 0 (n+1) nd ?_ ?_ <;> intro h4 cO
  ·refine aE [am 3]<|az [bw (.bool aT) H] (V3 hd.len ka)<|?_
   cases aT with
   |true=>
    exact af 1 aw H ⟨true,rfl⟩
   |false=>
    refine aD 1 (n>0) ?_ ?_ <;> intro h6 di
    ·refine aH 3 (n-1)<|aG 2 (n-1) (800:Int)<|az [bw (ab (bY ds (n-1))) H] (nW (i:=(n-1)) hd.len ka J J)<|d7 2 (Int.tmod (IntKind.u8.wrap ((bY ds (n-1))-48)) 2) 0 ?_ ?_ <;> intro h7 gM
     ·exact af 2 aw H ⟨true,rfl⟩
     exact af 2 U H ⟨false,rfl⟩
    exact af 3 U H ⟨false,rfl⟩
  refine aG 5 n (800:Int)<|az [bw (ab (bY ds n)) H] (nW (i:=n) hd.len ka J J)<|aD 0 ((bY ds n)≥53) ?_ ?_ <;> intro h5 dc
  ·exact af 1 aw H ⟨true,rfl⟩
  exact af 1 U H ⟨false,rfl⟩
 refine aG 6 n (800:Int)<|az [bw (ab (bY ds n)) H] (nW (i:=n) hd.len ka J J)<|aD 0 ((bY ds n)≥53) ?_ ?_ <;> intro h4 cO
 ·exact af 1 aw H ⟨true,rfl⟩
 exact af 1 U H ⟨false,rfl⟩
noncomputable def Uy:Code:=cw [1,1,1,1,0,1,0,0] (cx Tryz.f229)
theorem aai (a:Nat) (ds:List Int) (nd:Int) (dp:Int) (neg:Bool) (aT:Bool):∀(m:Nat) (aO:Int) (bl:Int) (H:Z),aa E G H→(ka:H.get a=some (O (cQ ds nd dp neg aT) 281))→(hd:jM ds nd)→(h0:0≤aO)→(vT:dp≤20)→(dp-aO).toNat=m→
  bV E G 56 Uy [(0,pt a 0),(3,M aO),(4,ap bl)] H [] (fun x T H'=>(x=(.exit 0)∧∃(z3:Int) (z4:Int),T=aP [(0,pt a 0),(3,M z3),(4,ap z4)]∧(0≤z3))):=by
 refine dJ fun m ih=>?_
 intro aO bl H y ka hd h0 vT hm
 refine cN y ?_
 refine aE [am 3]<|az [bw (M dp) H] (jN hd.len ka)<|aD 0 (aO<dp) ?_ ?_ <;> intro h1 q1
 ·refine aE [am 4]<|az [bw (M nd) H] (it hd.len ka)<|aD 0 (aO<nd) ?_ ?_ <;> intro h2 cv
  ·exact aG 7 aO (800:Int)<|az [bw (ab (bY ds aO)) H] (nW (i:=aO) hd.len ka J J)<|aH 5 (aO+1)<|du 1 [(0,pt a 0),(3,M (aO+1)),(4,ap (IntKind.u64.wrap ((IntKind.u64.wrap (bl*10))+(IntKind.u64.wrap (IntKind.u8.wrap ((bY ds aO)-48))))))] H (ih _ J (aO+1) (IntKind.u64.wrap ((IntKind.u64.wrap (bl*10))+(IntKind.u64.wrap (IntKind.u8.wrap ((bY ds aO)-48))))) _ y ka hd J vT rfl)
  exact cF 1 [(0,pt a 0),(3,M aO),(4,ap bl)] (.exit 0) H ⟨rfl,aO,bl,rfl,J⟩
 exact cF 2 [(0,pt a 0),(3,M aO),(4,ap bl)] (.exit 0) H ⟨rfl,aO,bl,rfl,J⟩
noncomputable def Uz:Code:=cw [1,1,1,1,1,0,0,0] (cx Tryz.f229)
theorem aaj (a:Nat) (ds:List Int) (nd:Int) (dp:Int) (neg:Bool) (aT:Bool):∀(m:Nat) (aO:Int) (bl:Int) (H:Z),aa E G H→(ka:H.get a=some (O (cQ ds nd dp neg aT) 281))→(vT:dp≤20)→(h0:0≤aO)→(hd:jM ds nd)→(dp-aO).toNat=m→
  bV E G 56 Uz [(0,pt a 0),(3,M aO),(4,ap bl)] H [] (fun x T H'=>(x=(.exit 2)∧∃(z4:Int),T=aP [(0,pt a 0),(4,ap z4)])):=by
 refine dJ fun m ih=>?_
 intro aO bl H y ka vT h0 hd hm
 refine cN y ?_
 refine aE [am 3]<|az [bw (M dp) H] (jN hd.len ka)<|aD 0 (aO<dp) ?_ ?_ <;> intro h1 q1
 ·exact aH 4 (aO+1)<|du 1 [(0,pt a 0),(3,M (aO+1)),(4,ap (IntKind.u64.wrap (bl*10)))] H (ih _ J (aO+1) (IntKind.u64.wrap (bl*10)) _ y ka vT J hd rfl)
 exact cF 0 [(0,pt a 0),(4,ap bl)] (.exit 2) H ⟨rfl,bl,rfl⟩
theorem aeb (a:Nat) (ds:List Int) (nd:Int) (dp:Int) (neg:Bool) (aT:Bool) {H:Z} (y:aa E G H) (ka:H.get a=some (O (cQ ds nd dp neg aT) 281)) (hd:jM ds nd):aV E G 229 [pt a 0] H [] (fun v H'=>∃ n:Int,v=.int .u64 n):=by
 refine bB Tryz.f229 y ?_
 refine aE [am 3]<|az [bw (M dp) H] (jN hd.len ka)<|aD 0 (dp>20) ?_ ?_ <;> intro h1 q1
 ·exact af 1 (ap 18446744073709551615) H ⟨_,rfl⟩
 obtain ⟨_,_,H1,c1,ak,y1,rfl,iK,fV,rfl,aI⟩:=(aai a ds nd dp neg aT _ 0 0 _ y ka hd J J rfl).code
 have fh:=y.kept ak aq ka
 obtain ⟨_,_,H2,c2,aF,ar,rfl,Sa,rfl⟩:=(aaj a ds nd dp neg aT _ iK fV _ y1 fh J J hd rfl).code
 have mO:=y1.kept aF aq fh
 obtain ⟨_,H3,c3,bq,aM,b3,rfl⟩:=aeO a ds nd dp neg aT dp ar mO hd J
 refine bx 3 c1<|bx 0 c2<|aE [am 3]<|az [bw (M dp) H2] (jN hd.len mO)<|ac 0 c3<|?_
 cases b3 with
 |true=>
  exact af 5 (ap (IntKind.u64.wrap (Sa+1))) H3 ⟨_,rfl⟩
 |false=>
  exact af 2 (ap Sa) H3 ⟨_,rfl⟩
theorem Kl {i:Int} (h0:0≤i) (h1:i<9):∃ n:Int,([.int .i64 1,.int .i64 3,.int .i64 6,.int .i64 9,.int .i64 13,.int .i64 16,.int .i64 19,.int .i64 23,.int .i64 26]:List Value)[0+i.toNat*1]?=some (.int .i64 n)∧1≤n∧n≤27:=by
 have:i=0∨i=1∨i=2∨i=3∨i=4∨i=5∨i=6∨i=7∨i=8:=J
 rcases this with rfl |rfl |rfl |rfl |rfl |rfl |rfl |rfl |rfl <;> exact ⟨_,rfl,J,J⟩
theorem jM.first {ds:List Int} {nd:Int} (h:jM ds nd):49≤bY ds 0∧bY ds 0≤57:=⟨h.kQ,(h.lH 0 J (by have:=h.n1;omega)).2⟩
noncomputable def Ut:Code:=cw [1,0,1,1,1,1,1,1,0,0,0] (cx Tryz.f207)
theorem aad (a:Nat) (neg:Bool):∀(m:Nat) (bD:Int) (ds:List Int) (nd:Int) (dp:Int) (aT:Bool) (H:Z),aa E G H→(ka:H.get a=some (O (cQ ds nd dp neg aT) 281))→(hd:jM ds nd)→(cU:G.n≤a)→(iC:-30000≤dp)→(p1:dp≤310)→(e0:0≤bD)→(e1:bD+27*(10*dp+bY ds 0)≤100000)→(10*dp+bY ds 0).toNat=m→
  bV E G 243 Ut [(0,pt a 0),(1,pt 12 0),(5,U),(6,M bD)] H [a] (fun x T H'=>(x=(.exit 0)∧∃(nF:Int) (ic:List Int) (ie ja:Int) (zt:Bool),T=aP [(0,pt a 0),(1,pt 12 0),(5,U),(6,M nF)]∧(H'.get a=some (O (cQ ic ie ja neg zt) 281)∧jM ic ie∧-30000≤ja∧ja≤0∧0≤nF∧nF≤10000000))):=by
 refine dJ fun m ih=>?_
 intro bD ds nd dp aT H y ka hd cU iC p1 e0 e1 hm
 have hf:=hd.first
 refine cN y ?_
 have gn:=iY
 refine aE [am 2]<|az [bw (M dp) H] (jN hd.len ka)<|aD 0 (dp>0) ?_ ?_ <;> intro h1 q1
 ·rcases df (decide (dp≥9)) with h2 |h2
  ·have cv:=fD h2
   obtain ⟨_,H1,c1,ak,y1,lk,jw,kY,ig,rfl,kK,jE,xJ,xx⟩:=K0 a ds nd dp neg aT 27 y ka hd cU J J J J
   have EI:=jE.first
   exact aE [am 0]<|aE [am 2]<|az [bw (M dp) H] (jN hd.len ka)<|Y 0 (ag 0 rl (t6 y))<|ay 1 h2<|ac 4 c1<|aH 2 (bD+27)<|dY 1 [(0,pt a 0),(1,pt 12 0),(5,U),(6,M (bD+27))] H1 [a] aW (ih _ J (bD+27) lk jw kY ig _ y1 kK jE cU J J J J rfl)
  have cv:=fM h2
  obtain ⟨aX,B2,Ax,Kj⟩:=Kl (i:=dp) J J
  have w1:((M (IntKind.i64.wrap (0-aX))):Value)=(M (-aX)):=(by rw [nE J J] <;> congr 1 <;> omega)
  obtain ⟨_,H1,c1,ak,y1,lk,jw,kY,ig,rfl,kK,jE,xJ,xx⟩:=K0 a ds nd dp neg aT aX y ka hd cU J J J J
  have EI:=jE.first
  exact aE [am 0]<|aE [am 2]<|az [bw (M dp) H] (jN hd.len ka)<|Y 0 (ag 0 rl (t6 y))<|ay 1 h2<|Y 0 (ag 0 rl (t6 y))<|aE [am 2]<|az [bw (M dp) H] (jN hd.len ka)<|aG 0 dp (9:Int)<|Y 0 (cH av (G3 y) B2:al E 3 26 (0+dp.toNat*1) H=some (M aX))<|aE [am 2]<|az [.as (M (-aX))] w1<|ac 0 c1<|aH 2 (bD+aX)<|dY 1 [(0,pt a 0),(1,pt 12 0),(5,U),(6,M (bD+aX))] H1 [a] aW (ih _ J (bD+aX) lk jw kY ig _ y1 kK jE cU J J J J rfl)
 exact c5 0 [(0,pt a 0),(1,pt 12 0),(5,U),(6,M bD)] (.exit 0) H [] aL aZ ⟨rfl,bD,ds,nd,dp,aT,rfl,⟨ka,hd,J,J,J,J⟩⟩
noncomputable def Uu:Code:=cw [1,0,1,1,1,1,1,1,1,0,0,0] (cx Tryz.f207)
theorem aae (a:Nat) (neg:Bool):∀(m:Nat) (bD:Int) (ds:List Int) (nd:Int) (dp:Int) (aT:Bool) (H:Z),aa E G H→(ka:H.get a=some (O (cQ ds nd dp neg aT) 281))→(hd:jM ds nd)→(cU:G.n≤a)→(iC:-30000≤dp)→(p1:dp≤20)→(e0:bD≤10000000)→(e1:-10000000≤bD+27*(10*dp+bY ds 0))→(60-(10*dp+bY ds 0)+100).toNat=m→
  bV E G 243 Uu [(0,pt a 0),(1,pt 12 0),(5,U),(6,M bD)] H [a] (fun x T H'=>(x=(.exit 2)∧∃(nF:Int) (ic:List Int) (ie ja:Int) (zt:Bool),T=aP [(0,pt a 0),(1,pt 12 0),(5,U),(6,M nF)]∧(H'.get a=some (O (cQ ic ie ja neg zt) 281)∧jM ic ie∧0≤ja∧ja≤20∧-11000000≤nF∧nF≤10000000))):=by
 refine dJ fun m ih=>?_
 intro bD ds nd dp aT H y ka hd cU iC p1 e0 e1 hm
 have hf:=hd.first
 refine cN y ?_
 have gn:=iY
 refine aE [am 2]<|az [bw (M dp) H] (jN hd.len ka)<|aD 0 (dp<0) ?_ ?_ <;> intro h1 q1
 ·have w1:((M (IntKind.i64.wrap (0-dp))):Value)=(M (-dp)):=(by rw [nE J J] <;> congr 1 <;> omega)
  rcases df (decide ((-dp)≥9)) with h2 |h2
  ·have cv:=fD h2
   obtain ⟨_,H1,c1,ak,y1,lk,jw,kY,ig,rfl,kK,jE,xJ,xx⟩:=De a ds nd dp neg aT 27 y ka hd cU J J J J
   have EI:=jE.first
   exact aE [am 2]<|aE [am 2]<|az [bw (M dp) H] (jN hd.len ka)<|az [.as (M (-dp))] w1<|Y 0 (ag 0 rl (t6 y))<|ay 1 h2<|ac 3 c1<|aH 2 (bD-27)<|dY 1 [(0,pt a 0),(1,pt 12 0),(5,U),(6,M (bD-27))] H1 [a] aW (ih _ J (bD-27) lk jw kY ig _ y1 kK jE cU J J J J rfl)
  have cv:=fM h2
  obtain ⟨aX,B2,Ax,Kj⟩:=Kl (i:=(-dp)) J J
  obtain ⟨_,H1,c1,ak,y1,lk,jw,kY,ig,rfl,kK,jE,xJ,xx⟩:=De a ds nd dp neg aT aX y ka hd cU J J J J
  have EI:=jE.first
  exact aE [am 2]<|aE [am 2]<|az [bw (M dp) H] (jN hd.len ka)<|az [.as (M (-dp))] w1<|Y 0 (ag 0 rl (t6 y))<|ay 1 h2<|Y 0 (ag 0 rl (t6 y))<|aE [am 2]<|az [bw (M dp) H] (jN hd.len ka)<|az [.as (M (-dp))] w1<|aG 0 (-dp) (9:Int)<|Y 0 (cH av (G3 y) B2:al E 3 26 (0+(-dp).toNat*1) H=some (M aX))<|ac 3 c1<|aH 2 (bD-aX)<|dY 1 [(0,pt a 0),(1,pt 12 0),(5,U),(6,M (bD-aX))] H1 [a] aW (ih _ J (bD-aX) lk jw kY ig _ y1 kK jE cU J J J J rfl)
 refine aE [am 3]<|az [bw (M dp) H] (jN hd.len ka)<|aY 0 dp 0 ?_ ?_ <;> intro h2 cv
 ·refine aE [am 4]<|az [bw (ab (bY ds 0)) H] (nW (i:=0) hd.len ka J J)<|aD 0 ((bY ds 0)<53) ?_ ?_ <;> intro h3 cY
  ·have w1:((M (IntKind.i64.wrap (0-dp))):Value)=(M (-dp)):=(by rw [nE J J] <;> congr 1 <;> omega)
   rcases df (decide ((-dp)≥9)) with h4 |h4
   ·have cO:=fD h4
    obtain ⟨_,H1,c1,ak,y1,lk,jw,kY,ig,rfl,kK,jE,xJ,xx⟩:=De a ds nd dp neg aT 27 y ka hd cU J J J J
    exact aE [am 2]<|aE [am 2]<|az [bw (M dp) H] (jN hd.len ka)<|az [.as (M (-dp))] w1<|Y 0 (ag 0 rl (t6 y))<|ay 1 h4<|ac 3 c1<|aH 2 (bD-27)<|dY 1 [(0,pt a 0),(1,pt 12 0),(5,U),(6,M (bD-27))] H1 [a] aW (ih _ J (bD-27) lk jw kY ig _ y1 kK jE cU J J J J rfl)
   obtain ⟨aX,B2,Ax,Kj⟩:=Kl (i:=(-dp)) J J
   obtain ⟨_,H1,c1,ak,y1,lk,jw,kY,ig,rfl,kK,jE,xJ,xx⟩:=De a ds nd dp neg aT aX y ka hd cU J J J J
   have EI:=jE.first
   exact aE [am 2]<|aE [am 2]<|az [bw (M dp) H] (jN hd.len ka)<|az [.as (M (-dp))] w1<|Y 0 (ag 0 rl (t6 y))<|ay 1 h4<|Y 0 (ag 0 rl (t6 y))<|aE [am 2]<|az [bw (M dp) H] (jN hd.len ka)<|az [.as (M (-dp))] w1<|aG 0 (-dp) (9:Int)<|Y 0 (cH av (G3 y) B2:al E 3 26 (0+(-dp).toNat*1) H=some (M aX))<|ac 3 c1<|aH 2 (bD-aX)<|dY 1 [(0,pt a 0),(1,pt 12 0),(5,U),(6,M (bD-aX))] H1 [a] aW (ih _ J (bD-aX) lk jw kY ig _ y1 kK jE cU J J J J rfl)
  exact c5 2 [(0,pt a 0),(1,pt 12 0),(5,U),(6,M bD)] (.exit 2) H [] aL aZ ⟨rfl,bD,ds,nd,dp,aT,rfl,⟨ka,hd,J,J,J,J⟩⟩
 exact c5 3 [(0,pt a 0),(1,pt 12 0),(5,U),(6,M bD)] (.exit 2) H [] aL aZ ⟨rfl,bD,ds,nd,dp,aT,rfl,⟨ka,hd,J,J,J,J⟩⟩
noncomputable def Vi:Code:=cw [1,0,1,1,1,1,1,1,1,1,1,0] (cx Tryz.f207)
theorem acx (a:Nat) (neg:Bool) (bD:Int) (ds:List Int) (nd:Int) (dp:Int) (aT:Bool) {H:Z} (y:aa E G H) (ka:H.get a=some (O (cQ ds nd dp neg aT) 281)) (hd:jM ds nd) (cU:G.n≤a) (iC:-30000≤dp) (p1:dp≤20) (e0:-12000000≤bD) (e1:bD≤10000000) :
  jL E G 243 Vi [(0,pt a 0),(1,pt 12 0),(5,U),(6,M bD)] H [a] (fun x T H'=>(x=.normal∧∃(nF:Int) (ic:List Int) (ie ja:Int) (zt:Bool),T=aP [(0,pt a 0),(1,pt 12 0),(5,U),(6,M nF)]∧(H'.get a=some (O (cQ ic ie ja neg zt) 281)∧jM ic ie∧-20000000000≤ja∧ja≤20∧-12000000≤nF∧nF≤10000000))):=by
 refine mq y ?_
 have gn:=iY
 refine Y 4 (ag 2 av (jx y))<|aD 1 (bD<(-1022)) ?_ ?_ <;> intro h1 q1
 ·have w1:((M (IntKind.i64.wrap (0-((-1022)-bD)))):Value)=(M (-((-1022)-bD))):=(by rw [nE J J] <;> congr 1 <;> omega)
  obtain ⟨_,H1,c1,ak,y1,lk,jw,kY,ig,rfl,kK,jE,xJ,xx⟩:=K0 a ds nd dp neg aT ((-1022)-bD) y ka hd cU J J J J
  exact Y 3 (ag 2 av (jx y))<|aH 2 ((-1022)-bD)<|aE [am 2]<|az [.as (M (-((-1022)-bD)))] w1<|ac 0 c1<|aH 2 (bD+((-1022)-bD))<|i8 1 [(0,pt a 0),(1,pt 12 0),(5,U),(6,M (bD+((-1022)-bD)))] .normal H1 [a] aW aZ ⟨rfl,bD+((-1022)-bD),lk,jw,kY,ig,rfl,⟨kK,jE,J,J,J,J⟩⟩
 exact i8 0 [(0,pt a 0),(1,pt 12 0),(5,U),(6,M bD)] .normal H [] aL aZ ⟨rfl,bD,ds,nd,dp,aT,rfl,⟨ka,hd,J,J,J,J⟩⟩
noncomputable def Vh:Code:=cw [1,0,1,1,1,1,1,1,1,1] (cx Tryz.f207)
theorem acw (a:Nat) (neg:Bool) (bD:Int) (ds:List Int) (nd:Int) (dp:Int) (aT:Bool) {H:Z} (y:aa E G H) (ka:H.get a=some (O (cQ ds nd dp neg aT) 281)) (hd:jM ds nd) (cU:G.n≤a) (iC:-30000≤dp) (p1:dp≤20) (e0:-11000000≤bD) (e1:bD≤10000000) :
  jL E G 243 Vh [(0,pt a 0),(1,pt 12 0),(5,U),(6,M bD)] H [a] (fun x T H'=>(x=(.goto 0)∧∃(nF j6:Int) (ic:List Int) (ie ja:Int) (zt:Bool),T=aP [(0,pt a 0),(1,pt 12 0),(5,U),(6,M nF),(7,ap j6)]∧(H'.get a=some (O (cQ ic ie ja neg zt) 281)∧ic.length=800))∨(x=(.goto 1)∧∃(ic:List Int) (ie ja:Int) (zt:Bool),T=aP [(0,pt a 0),(1,pt 12 0)]∧(H'.get a=some (O (cQ ic ie ja neg zt) 281)∧ic.length=800))):=by
 refine mq y ?_
 have gn:=iY
 obtain ⟨_,_,H1,c1,ak,y1,rfl,lX,lk,jw,kY,ig,rfl,kK,jE,aI,gv,j3,pI⟩:=acx a neg (bD-1) ds nd dp aT y ka hd cU J J J J
 have tf:=y.kept ak bU (jx y)
 rcases df (decide ((lX-(-1023))≥2047)) with h1 |h1
 ·have q1:=fD h1
  exact aH 1 (bD-1)<|gi 1 1 c1<|Y 4 (ag 2 av tf)<|aH 0 (lX-(-1023))<|Y 3 (ag 1 hX tf)<|ay 2 h1<|i8 0 [(0,pt a 0),(1,pt 12 0)] (.goto 1) H1 [a] aW aZ (.inr ⟨rfl,lk,jw,kY,ig,rfl,⟨kK,jE.len⟩⟩)
 have q1:=fM h1
 obtain ⟨_,H2,c2,aF,ar,pT,pU,sx,pV,rfl,qO,n3,Iz,BK⟩:=De a lk jw kY neg ig 53 y1 kK jE cU J J J J
 obtain ⟨_,H3,c3,bq,aM,sa,rfl⟩:=aeb a pT pU sx neg pV ar qO n3
 have Cl:=y1.kept aF bU tf
 have ki:=ar.kept bq aq Cl
 refine aH 1 (bD-1)<|gi 1 1 c1<|Y 4 (ag 2 av tf)<|aH 0 (lX-(-1023))<|Y 3 (ag 1 hX tf)<|ay 2 h1<|Y 4 (ag 0 hX tf)<|ac 2 c2<|ac 1 c3<|Y 5 (ag 0 hX ki)<|aY 1 sa 9007199254740992 ?_ ?_ <;> intro h2 cv
 ·rcases df (decide (((lX+1)-(-1023))≥2047)) with h3 |h3
  ·have cY:=fD h3
   have uC:=ar.kept bq aq qO
   exact aH 4 (lX+1)<|aE [am 0]<|Y 4 (ag 2 av ki)<|aH 0 ((lX+1)-(-1023))<|Y 3 (ag 1 hX ki)<|ay 2 h3<|i8 0 [(0,pt a 0),(1,pt 12 0)] (.goto 1) H3 [a,a] aW aZ (.inr ⟨rfl,pT,pU,sx,pV,rfl,⟨uC,n3.len⟩⟩)
  have cY:=fM h3
  refine aH 4 (lX+1)<|aE [am 0]<|Y 4 (ag 2 av ki)<|aH 0 ((lX+1)-(-1023))<|Y 3 (ag 1 hX ki)<|ay 2 h3<|Y 4 (ag 0 hX ki)<|aY 2 (IntKind.u64.wrap ((BitVec.ofInt 64 (Int.fdiv sa (2 ^ 1)) &&& BitVec.ofInt 64 4503599627370496).toNat:Int)) 0 ?_ ?_ <;> intro h4 cO
  ·have uC:=ar.kept bq aq qO
   exact Y 3 (ag 2 av ki)<|i8 1 [(0,pt a 0),(1,pt 12 0),(5,U),(6,M (-1023)),(7,ap (Int.fdiv sa (2 ^ 1)))] (.goto 0) H3 [a,a] aW aZ (.inl ⟨rfl,-1023,Int.fdiv sa (2 ^ 1),pT,pU,sx,pV,rfl,⟨uC,n3.len⟩⟩)
  have uC:=ar.kept bq aq qO
  exact i8 0 [(0,pt a 0),(1,pt 12 0),(5,U),(6,M (lX+1)),(7,ap (Int.fdiv sa (2 ^ 1)))] (.goto 0) H3 [a,a] aW aZ (.inl ⟨rfl,lX+1,Int.fdiv sa (2 ^ 1),pT,pU,sx,pV,rfl,⟨uC,n3.len⟩⟩)
 refine Y 4 (ag 0 hX ki)<|aY 2 (IntKind.u64.wrap ((BitVec.ofInt 64 sa &&& BitVec.ofInt 64 4503599627370496).toNat:Int)) 0 ?_ ?_ <;> intro h3 cY
 ·have uC:=ar.kept bq aq qO
  exact Y 3 (ag 2 av ki)<|i8 1 [(0,pt a 0),(1,pt 12 0),(5,U),(6,M (-1023)),(7,ap sa)] (.goto 0) H3 [a,a] aW aZ (.inl ⟨rfl,-1023,sa,pT,pU,sx,pV,rfl,⟨uC,n3.len⟩⟩)
 have uC:=ar.kept bq aq qO
 exact i8 0 [(0,pt a 0),(1,pt 12 0),(5,U),(6,M lX),(7,ap sa)] (.goto 0) H3 [a,a] aW aZ (.inl ⟨rfl,lX,sa,pT,pU,sx,pV,rfl,⟨uC,n3.len⟩⟩)
theorem WK (a:Nat) (ds:List Int) (nd:Int) (dp:Int) (neg:Bool) (aT:Bool) {H:Z} (y:aa E G H) (ka:H.get a=some (O (cQ ds nd dp neg aT) 281)) (hd:jM ds nd) (cU:G.n≤a) (nZ:-1000000<dp) (jZ:dp<1000000):aV E G 207 [pt a 0,pt 12 0] H [a] (fun v H'=>∃(b:Int) (o:Bool),v=.tuple #[.int .u64 b,.bool o]):=by
 refine bB Tryz.f207 y ?_
 have gn:=iY
 have n1:=hd.n1
 refine aE [am 6]<|az [bw (M nd) H] (it hd.len ka)<|ay 0 (beq_false_of_ne J:(nd==0)=false)<|aE [am 2]<|az [bw (M dp) H] (jN hd.len ka)<|aD 0 (dp>310) ?_ ?_ <;> intro h1 q1
 ·refine aE [am 0]<|Y 3 (ag 1 hX (jx y))<|Y 5 (ag 2 av (jx y))<|Y 7 (ag 0 hX (jx y))<|aE [am 3]<|Y 5 (ag 2 av (jx y))<|Y 4 (ag 1 hX (jx y))<|Y 7 (ag 0 hX (jx y))<|aE [am 5]<|az [bw (.bool neg) H] (Bx hd.len ka)<|?_
  cases neg with
  |true=>
   exact Y 4 (ag 0 hX (jx y))<|Y 4 (ag 1 hX (jx y))<|bf 7 (.tuple #[ap 18442240474082181120,aw]) H [] aL aZ ⟨_,_,rfl⟩
  |false=>
   exact bf 4 (.tuple #[ap 9218868437227405312,aw]) H [] aL aZ ⟨_,_,rfl⟩
 refine aE [am 2]<|az [bw (M dp) H] (jN hd.len ka)<|aD 0 (dp<(-330)) ?_ ?_ <;> intro h2 cv
 ·refine Y 4 (ag 2 av (jx y))<|Y 5 (ag 0 hX (jx y))<|aE [am 3]<|Y 5 (ag 2 av (jx y))<|Y 4 (ag 1 hX (jx y))<|Y 7 (ag 0 hX (jx y))<|aE [am 5]<|az [bw (.bool neg) H] (Bx hd.len ka)<|?_
  cases neg with
  |true=>
   exact Y 4 (ag 0 hX (jx y))<|Y 4 (ag 1 hX (jx y))<|bf 7 (.tuple #[ap 9223372036854775808,U]) H [] aL aZ ⟨_,_,rfl⟩
  |false=>
   exact bf 4 (.tuple #[ap 0,U]) H [] aL aZ ⟨_,_,rfl⟩
 have hf:=hd.first
 obtain ⟨_,_,H1,c1,ak,y1,rfl,lX,lk,jw,kY,ig,rfl,kK,jE,aI,gv,j3,pI⟩:=(aad a neg _ 0 ds nd dp aT _ y ka hd cU J J J J rfl).code
 have ah3:=jE.first
 obtain ⟨_,_,H2,c2,aF,ar,rfl,ahj,pT,pU,sx,pV,rfl,qO,n3,kw,Db,ajn,tN⟩:=(aae a neg _ lX lk jw kY ig _ y1 kK jE cU J J J J rfl).code
 obtain ⟨_,_,H3,c3,bq,aM,fq⟩:=acw a neg ahj pT pU sx pV ar qO n3 cU J J J J
 refine bx 1 c1<|bx 0 c2<|?_
 rcases fq with ⟨rfl,Sc,yQ,nJ,LW,ahy,o7,rfl,Cs,IR⟩ |⟨rfl,nJ,LW,ahy,o7,rfl,Cs,IR⟩
 ·have tf:=y.kept ak bU (jx y)
  have Cl:=y1.kept aF bU tf
  have ki:=ar.kept bq bU Cl
  refine gi 0 0 c3<|Y 4 (ag 0 hX ki)<|aE [am 3]<|Y 5 (ag 2 av ki)<|Y 4 (ag 1 hX ki)<|Y 7 (ag 0 hX ki)<|aE [am 5]<|az [bw (.bool neg) H3] (Bx IR Cs)<|?_
  cases neg with
  |true=>
   exact Y 4 (ag 0 hX ki)<|Y 4 (ag 1 hX ki)<|bf 7 (.tuple #[ap (IntKind.u64.wrap ((BitVec.ofInt 64 (IntKind.u64.wrap ((BitVec.ofInt 64 (IntKind.u64.wrap ((BitVec.ofInt 64 yQ &&& BitVec.ofInt 64 4503599627370495).toNat:Int)) |||BitVec.ofInt 64 (IntKind.u64.wrap ((IntKind.u64.wrap (IntKind.i64.wrap ((BitVec.ofInt 64 (IntKind.i64.wrap (Sc-(-1023))) &&& BitVec.ofInt 64 2047).toNat:Int)))*2 ^ 52))).toNat:Int)) |||BitVec.ofInt 64 9223372036854775808).toNat:Int)),U]) H3 [a,a,a] aW aZ ⟨_,_,rfl⟩
  |false=>
   exact bf 4 (.tuple #[ap (IntKind.u64.wrap ((BitVec.ofInt 64 (IntKind.u64.wrap ((BitVec.ofInt 64 yQ &&& BitVec.ofInt 64 4503599627370495).toNat:Int)) |||BitVec.ofInt 64 (IntKind.u64.wrap ((IntKind.u64.wrap (IntKind.i64.wrap ((BitVec.ofInt 64 (IntKind.i64.wrap (Sc-(-1023))) &&& BitVec.ofInt 64 2047).toNat:Int)))*2 ^ 52))).toNat:Int)),U]) H3 [a,a,a] aW aZ ⟨_,_,rfl⟩
 have tf:=y.kept ak bU (jx y)
 have Cl:=y1.kept aF bU tf
 have ki:=ar.kept bq bU Cl
 refine gi 0 0 c3<|aE [am 0]<|Y 3 (ag 1 hX ki)<|Y 5 (ag 2 av ki)<|Y 7 (ag 0 hX ki)<|aE [am 3]<|Y 5 (ag 2 av ki)<|Y 4 (ag 1 hX ki)<|Y 7 (ag 0 hX ki)<|aE [am 5]<|az [bw (.bool neg) H3] (Bx IR Cs)<|?_
 cases neg with
 |true=>
  exact Y 4 (ag 0 hX ki)<|Y 4 (ag 1 hX ki)<|bf 7 (.tuple #[ap 18442240474082181120,aw]) H3 [a,a,a] aW aZ ⟨_,_,rfl⟩
 |false=>
  exact bf 4 (.tuple #[ap 9218868437227405312,aw]) H3 [a,a,a] aW aZ ⟨_,_,rfl⟩
theorem WL (a:Nat) (ds:List Int) (dp:Int) (neg:Bool) (aT:Bool) {H:Z} (y:aa E G H) (ka:H.get a=some (O (cQ ds 0 dp neg aT) 281)) (hl:ds.length=800) (cU:G.n≤a):aV E G 207 [pt a 0,pt 12 0] H [a] (fun v H'=>∃(b:Int) (o:Bool),v=.tuple #[.int .u64 b,.bool o]):=by
 refine bB Tryz.f207 y ?_
 have gn:=iY
 refine aE [am 6]<|az [bw (M 0) H] (it hl ka)<|Y 5 (ag 2 av (jx y))<|Y 5 (ag 0 hX (jx y))<|aE [am 3]<|Y 5 (ag 2 av (jx y))<|Y 4 (ag 1 hX (jx y))<|Y 7 (ag 0 hX (jx y))<|aE [am 5]<|az [bw (.bool neg) H] (Bx hl ka)<|?_
 cases neg with
 |true=>
  exact Y 4 (ag 0 hX (jx y))<|Y 4 (ag 1 hX (jx y))<|bf 7 (.tuple #[ap 9223372036854775808,U]) H [] aL aZ ⟨_,_,rfl⟩
 |false=>
  exact bf 4 (.tuple #[ap 0,U]) H [] aL aZ ⟨_,_,rfl⟩
structure ll (ds:List Int) (nd dp i:Int):Prop where
 len:ds.length=800
 lH:ix ds nd
 n0:0≤nd
 qj:nd≤i
 kQ:0<nd→49≤bY ds 0
 d0:-i≤dp
 d1:dp≤i
theorem ll.init {i:Int} (h:0≤i):ll (List.replicate 800 0) 0 0 i:=⟨List.length_replicate,fun j a b=>by omega,J,h,fun e=>by omega,J,J⟩
theorem ll.skip {ds:List Int} {nd dp i:Int} (h:ll ds nd dp i):ll ds nd dp (i+1):=⟨h.len,h.lH,h.n0,by have:=h.qj;omega,h.kQ,by have:=h.d0;omega,by have:=h.d1;omega⟩
theorem ll.dot {ds:List Int} {nd dp i:Int} (h:ll ds nd dp i):ll ds nd nd (i+1):=⟨h.len,h.lH,h.n0,by have:=h.qj;omega,h.kQ,by have:=h.qj;have:=h.n0;omega,by have:=h.qj;omega⟩
theorem ll.lead {ds:List Int} {nd dp i:Int} (h:ll ds nd dp i):ll ds nd (dp-1) (i+1):=⟨h.len,h.lH,h.n0,by have:=h.qj;omega,h.kQ,by have:=h.d0;omega,by have:=h.d1;omega⟩
theorem ll.digit {ds:List Int} {nd dp i c:Int} (h:ll ds nd dp i) (h0:nd<800) (h1:48≤c) (h2:c≤57) (h3:nd=0→c≠48):ll (ds.set nd.toNat c) (nd+1) dp (i+1):=by
 have n0:=h.n0
 refine ⟨ui h.len,h.lH.set h.len n0 h0 h1 h2,J,by have:=h.qj;omega,fun _=>?_,by have:=h.d0;omega,by have:=h.d1;omega⟩
 rw [sY h.len J _ 0 J]
 split
 ·rename_i e;have:=h3 J;omega
 ·exact h.kQ J
theorem ll.ok {ds:List Int} {nd dp i:Int} (h:ll ds nd dp i) (hi:i≤400):ds.length=800∧(nd=0∨jM ds nd):=by
 refine ⟨h.len,?_⟩
 have n0:=h.n0
 have qj:=h.qj
 rcases Int.lt_or_le 0 nd with e |e
 ·exact .inr ⟨h.len,h.lH,J,J,h.kQ e⟩
 ·exact .inl J
end Go.Proofs.YtglmagcldkngbaaGreatDoor
