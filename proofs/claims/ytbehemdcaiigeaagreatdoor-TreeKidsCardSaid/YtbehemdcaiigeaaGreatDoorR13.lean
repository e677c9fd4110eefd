/- Part of the proof that TreeKids answers true. -/
import Derived.Test.YtbehemdcaiigeaaGreatDoorR12
import Derived.LaidLaws
import Derived.Stop.LaidErr
set_option linter.unusedVariables false
set_option linter.unusedSimpArgs false
set_option maxRecDepth 100000
set_option maxHeartbeats 4000000
set_option maxRecDepth 1000000
namespace Go.Proofs.YtbehemdcaiigeaaGreatDoor
open Go Go.Am
def LC:List (String×DataW Unit):=[("unicode/utf8.first",Rows.laid_unicode_utf8_first),("unicode/utf8.acceptRanges",Rows.laid_unicode_utf8_acceptRanges),("strings.asciiSpace",Rows.laid_strings_asciiSpace),("unicode.White_Space",Rows.laid_unicode_White_Space),("internal/strconv.optimize",Rows.laid_internal_strconv_optimize),("internal/strconv.pow10Tab",Rows.laid_internal_strconv_pow10Tab),("internal/strconv.powtab",Rows.laid_internal_strconv_powtab),("internal/strconv.leftcheats",Rows.laid_internal_strconv_leftcheats),("strconv.ErrSyntax",Rows.laid_strconv_ErrSyntax),("strconv.ErrRange",Rows.laid_strconv_ErrRange),("internal/strconv.uint64pow10",Rows.laid_internal_strconv_uint64pow10),("math/bits.deBruijn32tab",Rows.laid_math_bits_deBruijn32tab),("math/bits.deBruijn64tab",Rows.laid_math_bits_deBruijn64tab),("soundings/span.units",Rows.laid_soundings_span_units)]
theorem Qk {w:World} (h:laidMetH Tryz.prog Rows.treeKidsRow.laid w):laidMet Tryz.prog LC w∧handlesMet Tryz.prog [("errors.errorType",Rows.laid_errors_errorType)] w:=h
theorem Qj {w:World}:∀{l:List (String×DataW Unit)} {ps:List MemPlace},DataW.LaidVars Tryz.prog w l ps→∀(k:Nat) n d,l[k]?=some (n,d)→
  ∃ g t cs fuel p,Tryz.prog.globalNamed n=some g∧(Tryz.prog.globals[g]?).map (·.type)=some t∧w.var? Tryz.prog n=some cs∧DataW.trod (fun _=>()) Tryz.prog w 0 (fun _=>true) false fuel t cs.toList=some (d,p)
 |[],ps,h,k,n,d,hk=>by simp at hk
 |(n0,d0)::l,ps,h,k,n,d,hk=>by
  obtain ⟨g,t,cs,fuel,p,q,h1,h2,h3,h4,h5,_⟩:=h
  cases k with
  |zero=>
   simp only [List.getElem?_cons_zero,bx,bG] at hk
   obtain ⟨rfl,rfl⟩:=hk
   exact ⟨g,t,cs,fuel,p,h1,h2,h3,h4⟩
  |succ k=>exact Qj h5 k n d (by simpa using hk)
theorem aig {w:World} (h:laidMetH Tryz.prog Rows.treeKidsRow.laid w) (k:Nat) {n:String} {d:DataW Unit} {g t:Nat} (hk:LC[k]?=some (n,d)) (hg:Tryz.prog.globalNamed n=some g) (ht:(Tryz.prog.globals[g]?).map (·.type)=some t) :
  ∃ cs:List Value,∃ fuel p,DataW.trod (fun _=>()) Tryz.prog w 0 (fun _=>true) false fuel t cs=some (d,p)∧∀(j:Nat) x,cs[j]?=some x→w.cell? ⟨g,j,none⟩=some x:=by
 obtain ⟨⟨ps,h1,_⟩,_⟩:=Qk h
 obtain ⟨g',t',cs,fuel,p,h2,h3,h4,h5⟩:=Qj h1 k n d hk
 rw [hg] at h2
 injection h2 with h2
 subst h2
 rw [ht] at h3
 injection h3 with h3
 subst h3
 exact ⟨cs.toList,fuel,p,h5,fun j x hx=>by rw [World.var?_cell hg h4 j];simpa using hx⟩
theorem uK {w:World} (h:laidMetH Tryz.prog Rows.treeKidsRow.laid w) (k:Nat) {n:String} {d:DataW Unit} {g t:Nat} {vs:List Value} (hk:LC[k]?=some (n,d)) (hg:Tryz.prog.globalNamed n=some g) (ht:(Tryz.prog.globals[g]?).map (·.type)=some t)
  (hp:wq Tryz.prog 6 t=true) (hf:nc d=some vs) (j:Nat) (x:Value) (hx:vs[j]?=some x):w.cell? ⟨g,j,none⟩=some x:=by
 obtain ⟨cs,fuel,p,h1,h2⟩:=aig h k hk hg ht
 have:=MK 6 fuel t cs _ vs hp h1 hf
 subst this
 exact h2 j x hx
def k3 (k:Nat):List Value:=match wR[k]? with
 |some (df.cells c _ _)=>c
 |_=>[]
def ajs:DataW Unit→List (DataW Unit)
 |.slice ds _=>ds
 |_=>[]
theorem v2 {w:World} (h:laidMetH Tryz.prog Rows.treeKidsRow.laid w) (j:Nat) (x:Value) (hx:(k3 2)[j]?=some x):w.cell? ⟨2,j,none⟩=some x:=
 uK h 2 (n:= "strings.asciiSpace") rfl av (t:=145) av av (show nc Rows.laid_strings_asciiSpace=some (k3 2) by kernel_rfl) j x hx
theorem v3 {w:World} (h:laidMetH Tryz.prog Rows.treeKidsRow.laid w) (j:Nat) (x:Value) (hx:(k3 3)[j]?=some x):w.cell? ⟨3,j,none⟩=some x:=
 uK h 13 (n:= "soundings/span.units") rfl av (t:=168) av av (show nc Rows.laid_soundings_span_units=some (k3 3) by kernel_rfl) j x hx
theorem TU {w:World} (h:laidMetH Tryz.prog Rows.treeKidsRow.laid w) (j:Nat) (x:Value) (hx:(k3 5)[j]?=some x):w.cell? ⟨5,j,none⟩=some x:=
 uK h 4 (n:= "internal/strconv.optimize") rfl av (t:=4) av av (show nc Rows.laid_internal_strconv_optimize=some (k3 5) by kernel_rfl) j x hx
theorem v6 {w:World} (h:laidMetH Tryz.prog Rows.treeKidsRow.laid w) (j:Nat) (x:Value) (hx:(k3 6)[j]?=some x):w.cell? ⟨6,j,none⟩=some x:=
 uK h 10 (n:= "internal/strconv.uint64pow10") rfl av (t:=232) av av (show nc Rows.laid_internal_strconv_uint64pow10=some (k3 6) by kernel_rfl) j x hx
theorem TV {w:World} (h:laidMetH Tryz.prog Rows.treeKidsRow.laid w) (j:Nat) (x:Value) (hx:(k3 8)[j]?=some x):w.cell? ⟨8,j,none⟩=some x:=
 uK h 5 (n:= "internal/strconv.pow10Tab") rfl av (t:=313) av av (show nc Rows.laid_internal_strconv_pow10Tab=some (k3 8) by kernel_rfl) j x hx
theorem v10 {w:World} (h:laidMetH Tryz.prog Rows.treeKidsRow.laid w) (j:Nat) (x:Value) (hx:(k3 10)[j]?=some x):w.cell? ⟨10,j,none⟩=some x:=
 uK h 11 (n:= "math/bits.deBruijn32tab") rfl av (t:=204) av av (show nc Rows.laid_math_bits_deBruijn32tab=some (k3 10) by kernel_rfl) j x hx
theorem v11 {w:World} (h:laidMetH Tryz.prog Rows.treeKidsRow.laid w) (j:Nat) (x:Value) (hx:(k3 11)[j]?=some x):w.cell? ⟨11,j,none⟩=some x:=
 uK h 12 (n:= "math/bits.deBruijn64tab") rfl av (t:=333) av av (show nc Rows.laid_math_bits_deBruijn64tab=some (k3 11) by kernel_rfl) j x hx
theorem MQ {w:World} (h:laidMetH Tryz.prog Rows.treeKidsRow.laid w) (j:Nat) (x:Value) (hx:(k3 12)[j]?=some x):w.cell? ⟨12,j,none⟩=some x:=
 uK h 0 (n:= "unicode/utf8.first") rfl av (t:=145) av av (show nc Rows.laid_unicode_utf8_first=some (k3 12) by kernel_rfl) j x hx
theorem ah6 {w:World} (h:laidMetH Tryz.prog Rows.treeKidsRow.laid w) (j:Nat) (x:Value) (hx:(k3 13)[j]?=some x):w.cell? ⟨13,j,none⟩=some x:=
 uK h 1 (n:= "unicode/utf8.acceptRanges") rfl av (t:=353) av av (show nc Rows.laid_unicode_utf8_acceptRanges=some (k3 13) by kernel_rfl) j x hx
theorem v0 {w:World} (h:laidMetH Tryz.prog Rows.treeKidsRow.laid w):w.cell? ⟨0,0,none⟩=some (.iface 107 (.agg #[.pointer (some ⟨22,31,none⟩)])):=by
 obtain ⟨name,u,ty,e1,e2,aM,aG,bS⟩:=(Qk h).2 _ (List.mem_singleton.2 rfl)
 have XT:name=[101,114,114,111,114]:=(Option.some.inj e1).symm
 subst XT
 obtain rfl:=Option.some.inj ((show (Tryz.prog.cutTypes.find? (·.1== "internal/reflectlite.rtype")).map (·.2)=some 107 by kernel_rfl).symm.trans e2)
 have hm:ty∈(List.range Tryz.prog.types.size).filter fun t=>Tryz.prog.rowNamed t [101,114,114,111,114]:=List.mem_filter.2 ⟨List.mem_range.2 aM,aG⟩
 rw [show ((List.range Tryz.prog.types.size).filter fun t=>Tryz.prog.rowNamed t [101,114,114,111,114])=[31] by kernel_rfl] at hm
 obtain rfl:=List.mem_singleton.1 hm
 rw [show typeHandle Tryz.prog 31=.pointer (some ⟨22,31,none⟩) by kernel_rfl] at bS
 simpa using World.var?_cell (show Tryz.prog.globalNamed "errors.errorType"=some 0 by kernel_rfl) bS 0
end Go.Proofs.YtbehemdcaiigeaaGreatDoor
