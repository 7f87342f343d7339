/- LexJoins, plainly: see Lex3. -/
import Derived.Test.YthpmbokenhpakaaLex3
